/- The closed facts of the row. -/
import Derived.Test.YtdlaladdeelegaaGreatRows
import Derived.ProofKit
import Derived.Rings
import Derived.JoinedOf
set_option linter.all false
namespace Go.Proofs.YtdlaladdeelegaaGreat
open Go
theorem and_t {a b : Bool} (h : a = true) (k : b = true) : (a && b) = true := by rw [h, k]; rfl
theorem lim_0 : (Rows.congruenceRelatesRow.wf (OpenSpec.ofChange Rows.congruenceRelatesSpec)) = true := by kernel_rfl
theorem lim_1 : (laidOutB Tryz.prog) = true := by kernel_rfl
theorem lim_2 : (mapsRowed Tryz.prog) = true := by kernel_rfl
theorem lim_3 : (Tryz.f5.params.all (Tryz.prog.readableRec ·)) = true := by kernel_rfl
theorem lim_4 : (namedTie Tryz.prog Rows.congruenceRelatesRow.named Rows.congruenceRelatesSpec.vars) = true := by kernel_rfl
theorem lim_5 : ((Rows.congruenceRelatesRow.stops == [])) = true := by kernel_rfl
theorem lim_6 : ((Tryz.prog.stops == [])) = true := by kernel_rfl
theorem lim_7 : ((Rows.congruenceRelatesRow.knobs == [])) = true := by kernel_rfl
theorem lim_8 : ((Tryz.prog.stopKnobs == [])) = true := by kernel_rfl
theorem lim_9 : ((Rows.congruenceRelatesRow.inPlace == Tryz.prog.inPlace 5)) = true := by kernel_rfl
theorem lim_10 : ((Rows.congruenceRelatesRow.unfollowed == Tryz.prog.unfollowed 5)) = true := by kernel_rfl
theorem lim_11 : ((Rows.congruenceRelatesRow.recurses == Tryz.prog.recurses 5)) = true := by
 rw [Program.recurses_iff, show Tryz.prog.unfollowed 5 = true by kernel_rfl]; rfl
theorem lim_12 : ((Rows.congruenceRelatesRow.named == Tryz.prog.varsNamed 5)) = true := by kernel_rfl
theorem lim_13 : ((Rows.congruenceRelatesRow.maps == (Tryz.f5.params.toList ++ Rows.congruenceRelatesSpec.plain.varTypes Tryz.prog).any (Tryz.prog.mapsRec ·))) = true := by kernel_rfl
theorem lim_14 : ((Rows.congruenceRelatesRow.ifaces == (Tryz.f5.params.toList ++ Rows.congruenceRelatesSpec.plain.varTypes Tryz.prog).any (Tryz.prog.ifacesRec ·))) = true := by kernel_rfl
theorem lim_15 : ((Rows.congruenceRelatesRow.mapsOut == Tryz.prog.mapsAmong Tryz.f5.resultTypes.toList)) = true := by kernel_rfl
theorem lim_16 : ((Rows.congruenceRelatesRow.loops == (Tryz.f5.params.toList ++ Rows.congruenceRelatesSpec.plain.varTypes Tryz.prog).any (Tryz.prog.loopsFrom ·))) = true := by kernel_rfl
theorem lim_17 : ((Rows.congruenceRelatesRow.wideKeys == (Tryz.f5.params.toList ++ Rows.congruenceRelatesSpec.plain.varTypes Tryz.prog ++ Tryz.f5.resultTypes.toList).any (Tryz.prog.wideKeysFrom ·))) = true := by kernel_rfl
theorem lim_18 : (Rows.congruenceRelatesSpec.vars.all (Tryz.prog.varReadable ·)) = true := by kernel_rfl
theorem lim_19 : (Tryz.f5.resultTypes.all (fun t => Tryz.prog.readableRec t && decide (t < Tryz.prog.types.size))) = true := by kernel_rfl
theorem lim_20 : ((Rows.congruenceRelatesRow.ifacesOut == Tryz.f5.resultTypes.toList.any (Tryz.prog.ifacesRec ·))) = true := by kernel_rfl
theorem lim_21 : ((Rows.congruenceRelatesRow.loopsOut == Tryz.f5.resultTypes.toList.any (Tryz.prog.loopsFrom ·))) = true := by kernel_rfl
theorem lim_22 : ((Rows.congruenceRelatesRow.plainKeys == Tryz.prog.plainKeys)) = true := by kernel_rfl
theorem lim_23 : (Rows.congruenceRelatesRow.shortTexts.isNone) = true := by kernel_rfl
theorem lim_24 : (Tryz.prog.stopsHeard) = true := by kernel_rfl
theorem lim_25 : (Tryz.prog.mayEnter) = true := by kernel_rfl
theorem lim_26 : ((Rows.congruenceRelatesRow.lifted == Tryz.prog.liftsFinal)) = true := by kernel_rfl
theorem lim_27 : ((Tryz.prog.make == some Rows.congruenceRelatesRow.make)) = true := by kernel_rfl
theorem lim_28 : ((Rows.congruenceRelatesRow.kinds == (if Rows.congruenceRelatesRow.domain.isEmpty then [] else Tryz.f5.params.toList.map fun t => match Tryz.prog.underlying t with | some (.int k) => some k | _ => none))) = true := by kernel_rfl
theorem lim_29 : ((Rows.congruenceRelatesRow.pinned == Rows.congruenceRelatesRow.pinnedBy)) = true := by kernel_rfl
theorem lim_30 : ((Rows.congruenceRelatesRow.veiled == (Tryz.f5.params.toList ++ Rows.congruenceRelatesSpec.plain.varTypes Tryz.prog ++ Tryz.f5.resultTypes.toList).any (Tryz.prog.veiledRec ·))) = true := by kernel_rfl
theorem lim_31 : (Rows.congruenceRelatesRow.veiledFits Tryz.prog Tryz.f5.params.toList (Tryz.f5.params.toList ++ Rows.congruenceRelatesSpec.plain.varTypes Tryz.prog ++ Tryz.f5.resultTypes.toList)) = true := by kernel_rfl
end Go.Proofs.YtdlaladdeelegaaGreat
set_option maxRecDepth 100000
namespace Go.Proofs.YtdlaladdeelegaaGreat
open Go
theorem lim_all : joinedFacts Tryz.prog 5 Tryz.f5 Rows.congruenceRelatesSpec Rows.congruenceRelatesRow = true := by
 unfold joinedFacts
 exact and_t (and_t (and_t (and_t (and_t (and_t (and_t (and_t (and_t (and_t (and_t (and_t (and_t (and_t (and_t (and_t (and_t (and_t (and_t (and_t (and_t (and_t (and_t (and_t (and_t (and_t (and_t (and_t (and_t (and_t (and_t (lim_0) lim_1) lim_2) lim_3) lim_4) lim_5) lim_6) lim_7) lim_8) lim_9) lim_10) lim_11) lim_12) lim_13) lim_14) lim_15) lim_16) lim_17) lim_18) lim_19) lim_20) lim_21) lim_22) lim_23) lim_24) lim_25) lim_26) lim_27) lim_28) lim_29) lim_30) lim_31
end Go.Proofs.YtdlaladdeelegaaGreat
