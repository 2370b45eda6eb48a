/- For every input the statement ElabLevels returns true, and leaves its input as it was. No condition. -/
import Derived.Test.YtelobjfgghlkfaaGreatD8
import Derived.JoinedOf
import Derived.Test.YtelobjfgghlkfaaGreatD7
set_option linter.all false
noncomputable section
set_option maxRecDepth 100000
namespace Go.Proofs.YtelobjfgghlkfaaGreat
open Go
theorem lim_all : joinedFacts Tryz.prog 3 Tryz.f3 Rows.elabLevelsSpec Rows.elabLevelsRow = true := by
  unfold joinedFacts
  exact and_t (and_t (and_t (and_t (and_t (and_t (and_t (and_t (and_t (and_t (and_t (and_t (and_t (and_t (and_t (and_t (and_t (and_t (and_t (and_t (and_t (and_t (and_t (and_t (and_t (and_t (and_t (and_t (and_t (and_t (and_t (lim_0) lim_1) lim_2) lim_3) lim_4) lim_5) lim_6) lim_7) lim_8) lim_9) lim_10) lim_11) lim_12) lim_13) lim_14) lim_15) lim_16) lim_17) lim_18) lim_19) lim_20) lim_21) lim_22) lim_23) lim_24) lim_25) lim_26) lim_27) lim_28) lim_29) lim_30) lim_31
end Go.Proofs.YtelobjfgghlkfaaGreat

/- The level that is written: for every input the statement ElabLevels returns true, and leaves its input as it was. -/
set_option linter.constructorNameAsVariable false
set_option maxRecDepth 100000
namespace Go.Proofs.YtelobjfgghlkfaaGreat
open Go Go.Ae Go.ChangeShapes Go.WideShapes Go.ChangeAt Go.RowKit

theorem Tryz.own : ownKnob Tryz.prog.godebug = none := by kernel_rfl
theorem Tryz.laidOut : laidOutB Tryz.prog = true := by kernel_rfl

theorem El.rr22 : Tryz.prog.readableRec 22 = true := by kernel_rfl
theorem El.rr27 : Tryz.prog.readableRec 27 = true := by kernel_rfl
theorem El.rr30 : Tryz.prog.readableRec 30 = true := by kernel_rfl
theorem El.tn : 30 < Tryz.prog.types.size := of_decide_eq_true (by kernel_rfl)

section
variable {H : Type} {enc : TypeId × Value → H} {W : World} {base : Nat}

/-- An argument that is no struct. -/
theorem El.in_one {t : TypeId} {v : Value} {d : DataW H} {p : List MemPlace} (ht : t ∈ El.plainS) (h : DataW.Trod enc Tryz.prog W base (fun _ => true) true t v d p) (hv : v.cells.toList = [v]) :
    ∃ vs, Ty Tryz.prog t vs ∧ ∀ a, vs = [a] → vr (World.imm W) At.bot a v := by
  obtain ⟨fuel, h⟩ := h
  obtain ⟨vs, h1, h2, _⟩ := trod_in El.plain_ok fuel t ht _ _ h
  refine ⟨vs, h1, fun a ha => ?_⟩
  subst ha
  rw [hv] at h2
  simp only [vrl] at h2
  obtain ⟨x, xs, hx, h3, _⟩ := h2
  cases hx
  exact h3

/-- An argument that is a struct. -/
theorem El.in_agg {t : TypeId} {cs : Array Value} {d : DataW H} {p : List MemPlace} (ht : t ∈ El.plainS) (h : DataW.Trod enc Tryz.prog W base (fun _ => true) true t (.agg cs) d p) :
    ∃ vs, Ty Tryz.prog t vs ∧ vr (World.imm W) At.bot (.agg vs) (.agg cs) := by
  obtain ⟨fuel, h⟩ := h
  obtain ⟨vs, h1, h2, _⟩ := trod_in El.plain_ok fuel t ht _ _ h
  refine ⟨vs, h1, ?_⟩
  simp only [vr]
  exact ⟨cs, rfl, h2⟩
end

theorem El.ok22 {W : World} {r : Reach} {base : Nat} {v : Value} (h : Value.okWide Tryz.prog W r base 22 v) : v.cells.toList = [v] := by
  simp only [Value.okWide, El.u22, Cell.okWide] at h
  cases v <;> first | rfl | (simp [Cell.ok, El.u22] at h)
theorem El.st27 : ∃ fs, Tryz.prog.underlying 27 = some (.struct fs) := by
  have h : (match Tryz.prog.underlying 27 with | some (.struct _) => true | _ => false) = true := by kernel_rfl
  split at h
  · rename_i fs hu; exact ⟨fs, hu⟩
  · cases h
theorem El.st30 : ∃ fs, Tryz.prog.underlying 30 = some (.struct fs) := by
  have h : (match Tryz.prog.underlying 30 with | some (.struct _) => true | _ => false) = true := by kernel_rfl
  split at h
  · rename_i fs hu; exact ⟨fs, hu⟩
  · cases h
theorem El.okS {W : World} {r : Reach} {base : Nat} {t : TypeId} {v : Value} {fs : Array Field} (hu : Tryz.prog.underlying t = some (.struct fs)) (h : Value.okWide Tryz.prog W r base t v) : ∃ cs, v = .agg cs := by
  simp only [Value.okWide, hu] at h
  obtain ⟨cs, h, _⟩ := h
  exact ⟨cs, h⟩

set_option maxRecDepth 100000 in
theorem elabLevels_lifted (os : Os) (started : os.Started) (H : Type) (enc : TypeId × Value → H) :
    ReturnsInHanded {} Tryz.checked os 3 .any (Rows.elabLevelsSpec.pre6 enc Tryz.prog Tryz.f3 Rows.elabLevelsRow.domain false) (Rows.elabLevelsSpec.post enc Tryz.prog Tryz.f3 false true false false) := by
  refine returnsInHanded_of_change (C := Tryz.checked) Tryz.own started (by kernel_rfl) Tryz.func3
    (ChangeSpec.witness6 (enc := enc) (C := Tryz.checked) false ⟨#[], #[.slice none 0 0, .agg #[.slice none 0 0, .slice none 0 0, .slice none 0 0, .int .i64 0], .agg #[.bool false, .slice none 0 0]], []⟩ 8 (by kernel_rfl) (by kernel_rfl) (by kernel_rfl) (by kernel_rfl)) ?_
  intro W base args ds gs before hval0 hW hcnd _
  have hval : ∀ (j : Nat) t v, Tryz.f3.params[j]? = some t → args[j]? = some v → Value.okWide Tryz.prog W .any base t v := hval0
  have hW' := hW
  obtain ⟨p, q, hA0, hV, rfl, hfz, hnd⟩ := hW
  have hA : DataW.TrodAll enc Tryz.prog W 0 (fun _ => true) true Tryz.f3.params.toList args.toList ds p := hA0
  rw [Tryz.params3] at hA hval
  obtain ⟨v0, v1, v2, d0, d1, d2, p0, p1, p2, rfl, rfl, rfl, h0, h1, h2⟩ := trodAll_three hA
  obtain ⟨rfl, rfl⟩ := trodVars_none hV
  have k0 := El.ok22 (hval 0 22 v0 rfl rfl)
  obtain ⟨fs27, hu27⟩ := El.st27
  obtain ⟨fs30, hu30⟩ := El.st30
  obtain ⟨c1, rfl⟩ := El.okS hu27 (hval 1 27 v1 rfl rfl)
  obtain ⟨c2, rfl⟩ := El.okS hu30 (hval 2 30 v2 rfl rfl)
  obtain ⟨vs0, t0, r0⟩ := El.in_one (by decide) h0 k0
  obtain ⟨vs1, t1, r1⟩ := El.in_agg (by decide) h1
  obtain ⟨vs2, t2, r2⟩ := El.in_agg (by decide) h2
  obtain ⟨s, ls, rfl, hss, hln⟩ := El.ty_ss t0
  obtain ⟨m, b, e, n, rfl, hm, hb, he⟩ := El.ty_sto t1
  obtain ⟨hole, sa, av, rfl, hsa⟩ := El.ty_syn t2
  clear hA0 hval0
  simp only [List.append_nil] at hW'
  refine (El.f3_calls hss hln hsa hm hb he n hole (W := W) (args := #[v0, .agg c1, .agg c2]) ?_).mono fun e W' ⟨he, hB⟩ => ?_
  · simp only [vrl]
    exact ⟨_, _, rfl, r0 s rfl, _, _, rfl, r1, _, _, rfl, r2, rfl⟩
  subst he
  have hlt : ∀ x ∈ p0 ++ p1 ++ p2, x.block < W.heap.size := fun x hx => hW'.lt x hx
  have l0 : ∀ x ∈ p0, x.block < W.heap.size := fun x hx => hlt x (by simp [hx])
  have l1 : ∀ x ∈ p1, x.block < W.heap.size := fun x hx => hlt x (by simp [hx])
  have l2 : ∀ x ∈ p2, x.block < W.heap.size := fun x hx => hlt x (by simp [hx])
  refine ⟨_, rfl, [d0, d1, d2], [], p0 ++ p1 ++ p2, [], p0 ++ (p1 ++ p2), [], hW', trodAll_mk1 (shut_bool El.u4 true), trodAll_mk3
      (WideElems.Trod_stays Tryz.laidOut El.rr22 (Nat.lt_trans (by decide) El.tn) h0 (fun x hx => hB.same (l0 x hx)) fun x hx => decide_eq_true (l0 x hx))
      (WideElems.Trod_stays Tryz.laidOut El.rr27 (Nat.lt_trans (by decide) El.tn) h1 (fun x hx => hB.same (l1 x hx)) fun x hx => decide_eq_true (l1 x hx))
      (WideElems.Trod_stays Tryz.laidOut El.rr30 El.tn h2 (fun x hx => hB.same (l2 x hx)) fun x hx => decide_eq_true (l2 x hx)), rfl, hB.frame _, fun h => by cases h⟩

theorem elabLevels_holds : Rows.ElabLevelsSaid :=
  OpenClaim.holds_of_wide 3 Tryz.f3 rfl rfl rfl rfl rfl rfl rfl ⟨rfl, rfl, rfl, rfl, rfl⟩ rfl rfl rfl rfl rfl (by kernel_rfl) Tryz.func3 lim_all
    (of_decide_eq_true (by kernel_rfl)) (by unfold Func.isWrapper; first | (rw [if_pos (by decide +kernel)]; kernel_rfl) | (rw [if_neg (by decide +kernel)]; exact ⟨rfl, rfl⟩))
    (fun os started H enc _ => elabLevels_lifted os started H enc)

end Go.Proofs.YtelobjfgghlkfaaGreat
