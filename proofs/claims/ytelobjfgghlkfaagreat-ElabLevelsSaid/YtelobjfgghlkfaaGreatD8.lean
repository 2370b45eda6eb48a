/- The closed facts of the row of ElabLevels. -/
import Derived.Test.YtelobjfgghlkfaaGreatRows
import Derived.ProofKit
import Derived.Rings
set_option linter.all false
noncomputable section
namespace Go.Proofs.YtelobjfgghlkfaaGreat
open Go
theorem and_t {a b : Bool} (h : a = true) (k : b = true) : (a && b) = true := by rw [h, k]; rfl
theorem lim_0 : (Rows.elabLevelsRow.wf (OpenSpec.ofChange Rows.elabLevelsSpec)) = true := by kernel_rfl
theorem lim_1 : (laidOutB Tryz.prog) = true := by kernel_rfl
theorem lim_2 : (mapsRowed Tryz.prog) = true := by kernel_rfl
theorem lim_3 : (Tryz.f3.params.all (Tryz.prog.readableRec ·)) = true := by kernel_rfl
theorem lim_4 : (namedTie Tryz.prog Rows.elabLevelsRow.named Rows.elabLevelsSpec.vars) = true := by kernel_rfl
theorem lim_5 : ((Rows.elabLevelsRow.stops == [])) = true := by kernel_rfl
theorem lim_6 : ((Tryz.prog.stops == [])) = true := by kernel_rfl
theorem lim_7 : ((Rows.elabLevelsRow.knobs == [])) = true := by kernel_rfl
theorem lim_8 : ((Tryz.prog.stopKnobs == [])) = true := by kernel_rfl
theorem lim_9 : ((Rows.elabLevelsRow.inPlace == Tryz.prog.inPlace 3)) = true := by kernel_rfl
theorem lim_10 : ((Rows.elabLevelsRow.unfollowed == Tryz.prog.unfollowed 3)) = true := by kernel_rfl
theorem lim_11 : ((Rows.elabLevelsRow.recurses == Tryz.prog.recurses 3)) = true := by
  rw [Program.recurses_iff, show Tryz.prog.unfollowed 3 = true by kernel_rfl]; rfl
theorem lim_12 : ((Rows.elabLevelsRow.named == Tryz.prog.varsNamed 3)) = true := by kernel_rfl
theorem lim_13 : ((Rows.elabLevelsRow.maps == (Tryz.f3.params.toList ++ Rows.elabLevelsSpec.plain.varTypes Tryz.prog).any (Tryz.prog.mapsRec ·))) = true := by kernel_rfl
theorem lim_14 : ((Rows.elabLevelsRow.ifaces == (Tryz.f3.params.toList ++ Rows.elabLevelsSpec.plain.varTypes Tryz.prog).any (Tryz.prog.ifacesRec ·))) = true := by kernel_rfl
theorem lim_15 : ((Rows.elabLevelsRow.mapsOut == Tryz.prog.mapsAmong Tryz.f3.resultTypes.toList)) = true := by kernel_rfl
theorem lim_16 : ((Rows.elabLevelsRow.loops == (Tryz.f3.params.toList ++ Rows.elabLevelsSpec.plain.varTypes Tryz.prog).any (Tryz.prog.loopsFrom ·))) = true := by kernel_rfl
theorem lim_17 : ((Rows.elabLevelsRow.wideKeys == (Tryz.f3.params.toList ++ Rows.elabLevelsSpec.plain.varTypes Tryz.prog ++ Tryz.f3.resultTypes.toList).any (Tryz.prog.wideKeysFrom ·))) = true := by kernel_rfl
theorem lim_18 : (Rows.elabLevelsSpec.vars.all (Tryz.prog.varReadable ·)) = true := by kernel_rfl
theorem lim_19 : (Tryz.f3.resultTypes.all (fun t => Tryz.prog.readableRec t && decide (t < Tryz.prog.types.size))) = true := by kernel_rfl
theorem lim_20 : ((Rows.elabLevelsRow.ifacesOut == Tryz.f3.resultTypes.toList.any (Tryz.prog.ifacesRec ·))) = true := by kernel_rfl
theorem lim_21 : ((Rows.elabLevelsRow.loopsOut == Tryz.f3.resultTypes.toList.any (Tryz.prog.loopsFrom ·))) = true := by kernel_rfl
theorem lim_22 : ((Rows.elabLevelsRow.plainKeys == Tryz.prog.plainKeys)) = true := by kernel_rfl
theorem lim_23 : (Rows.elabLevelsRow.shortTexts.isNone) = true := by kernel_rfl
theorem lim_24 : (Tryz.prog.stopsHeard) = true := by kernel_rfl
theorem lim_25 : (Tryz.prog.mayEnter) = true := by kernel_rfl
theorem lim_26 : ((Rows.elabLevelsRow.lifted == Tryz.prog.liftsFinal)) = true := by kernel_rfl
theorem lim_27 : ((Tryz.prog.make == some Rows.elabLevelsRow.make)) = true := by kernel_rfl
theorem lim_28 : ((Rows.elabLevelsRow.kinds == (if Rows.elabLevelsRow.domain.isEmpty then [] else Tryz.f3.params.toList.map fun t => match Tryz.prog.underlying t with | some (.int k) => some k | _ => none))) = true := by kernel_rfl
theorem lim_29 : ((Rows.elabLevelsRow.pinned == Rows.elabLevelsRow.pinnedBy)) = true := by kernel_rfl
theorem lim_30 : ((Rows.elabLevelsRow.veiled == (Tryz.f3.params.toList ++ Rows.elabLevelsSpec.plain.varTypes Tryz.prog ++ Tryz.f3.resultTypes.toList).any (Tryz.prog.veiledRec ·))) = true := by kernel_rfl
theorem lim_31 : (Rows.elabLevelsRow.veiledFits Tryz.prog Tryz.f3.params.toList (Tryz.f3.params.toList ++ Rows.elabLevelsSpec.plain.varTypes Tryz.prog ++ Tryz.f3.resultTypes.toList)) = true := by kernel_rfl
end Go.Proofs.YtelobjfgghlkfaaGreat
