/- Levels: append. -/
import Derived.Test.YtelobjfgghlkfaaGreatD4
set_option linter.all false
noncomputable section
set_option linter.unusedSimpArgs false
set_option linter.unusedVariables false
namespace Go.Proofs.YtelobjfgghlkfaaGreat.El
open Go Go.Ae
attribute [local simp] setF thenV_normal thenV_ret thenV_exit blockV_normal blockV_ret blockV_exit stepV_v stepV_some stepV_drop skipS_S thenC_ret S_get S_h S_dfs apply_v apply_wr apply_nw apply_wn at1_if atB_same atB_ne n_mkH get_mkH set_mkB new_mkB wantB_bool wantB_undef condV_true condV_false valS binV_int binV_str intOp_add intOp_sub intOp_eql intOp_neq intOp_lss intOp_leq intOp_gtr intOp_geq strOp_eql strOp_neq xPick_bool xUn_not ext_0 ext_1 ext_2 ext_3 addrAdd_ptr addrAdd_iptr xNilCheck_ptr build_C List.map cells_agg cells_int cells_bool cells_str cells_ptr cells_nils cells_vs xStore xLoad V.ones one_int one_bool one_str one_ptr one_nils one_vs splice resultVs_cons resultVs_nil resultV_tmp resultV_cell cellV_ptr resV_one resV_two resV_nil callOf_func callOf_yield callX_func thenC_noret stepD_vS stepD_rdS stepD_wrS stepD_nwS okD_nil okD_rd okD_wr okD_ww okD_rw okD_bef max2 eqBoolTT cond_true cond_false List.nil_append List.cons_append
attribute [local simp] k17_ret k17_nrm k17_c k17_0_c k17_0_0 k17_0_1 k17_0_2 k17_0_3 k17_0_4 k17_1_c k17_2_c k17_4_c k17_4_0 k17_4_1 k17_4_2 k17_4_3 k17_4_4 k17_4_5 k17_4_6 k17_4_7 k17_4_8 k17_5_c k17_6_c k17_8_c k17_8_0 k17_8_1 k17_8_2 k17_8_3 k17_9_c k17_7_c k17_3_c k17_10_c k17_10_0 k17_10_1 k17_10_2 k17_10_3 k17_10_4 k17_10_5 k17_10_6 k17_10_7 k17_10_8 k17_11_c k17_12_c k17_14_c k17_14_0 k17_14_1 k17_14_2 k17_14_3 k17_14_4 k17_14_5 k17_15_c k17_17_c k17_17_0 k17_17_1 k17_17_2 k17_18_c k17_19_c k17_19_0 k17_19_1 k17_19_2 k17_19_3 k17_19_4 k17_19_5 k17_19_6 k17_19_7 k17_13_c k17_20_c k17_20_0 k17_20_1 k17_20_2 k17_20_3 k17_20_4 k17_20_5 k17_20_6 k17_21_c

theorem okU35 : okU Tryz.prog 35 = true := by kernel_rfl
theorem okZ74 : okZ Tryz.prog 74 = true := by kernel_rfl
theorem by74 : bytesOf Tryz.prog 74 = 16 := by kernel_rfl
theorem room74 {n : Nat} (h : n ≤ 1000000) : roomOk Tryz.prog 74 n := by
  unfold roomOk
  rw [by74]
  constructor <;> omega

theorem app35_nil (x : Int × Int) (get : Nat → Blk) (nid : Nat) : builtinV Tryz.prog false get nid .append [35, 35] [.nils, .vs (vcs [x]) 1 2 .tight] = some { v := .vs (vcs [x]) 1 2 (.tok nid 1), nw := [.tok 1] } := by
  unfold builtinV
  simp only [un35]
  show (if okU Tryz.prog 35 = false ∨ okZ Tryz.prog 74 = false then none else _) = _
  rw [okU35, okZ74]
  simp only [sliceCells, Bool.true_eq_false, or_self, if_false]
  show (if V.ones (vcs [x]) = false ∨ (vcs [x]).length ≠ 1 * szOf Tryz.prog 74 then none else _) = _
  rw [sz74]
  simp only [vcs, V.ones, one_int, List.length_cons, List.length_nil, Bool.and_self, Bool.true_eq_false, Nat.reduceAdd, Nat.reduceMul, ne_eq, not_true_eq_false, or_self, if_false, Nat.one_ne_zero]
  unfold appendV
  simp only [okZ74, Bool.true_eq_false, if_false]
  rw [if_pos (room74 (n := 1) (by omega))]
  simp [V.pures, V.pure, V.seals, V.shut, sz74]

theorem app35_tok (x : Int × Int) (l : List (Int × Int)) (r : Nat) (get : Nat → Blk) (nid : Nat) (hr : get r = .tok l.length) (hl : l.length < 1000000) : builtinV Tryz.prog false get nid .append [35, 35] [.vs (vcs l) l.length 2 (.tok r l.length), .vs (vcs [x]) 1 2 .tight] =
    some { v := .vs (vcs (l ++ [x])) (l.length + 1) 2 (.tok r (l.length + 1)), rd := [r], wr := [(r, .tok (l.length + 1))] } := by
  unfold builtinV
  simp only [un35]
  show (if okU Tryz.prog 35 = false ∨ okZ Tryz.prog 74 = false then none else _) = _
  rw [okU35, okZ74]
  simp only [sliceCells, Bool.true_eq_false, or_self, if_false]
  show (if V.ones (vcs [x]) = false ∨ (vcs [x]).length ≠ 1 * szOf Tryz.prog 74 then none else _) = _
  rw [sz74]
  simp only [vcs, V.ones, one_int, List.length_cons, List.length_nil, Bool.and_self, Bool.true_eq_false, Nat.reduceAdd, Nat.reduceMul, ne_eq, not_true_eq_false, or_self, if_false, Nat.one_ne_zero]
  unfold appendV
  simp only [okZ74, Bool.true_eq_false, if_false, sz74]
  rw [if_pos ⟨trivial, room74 (by omega)⟩]
  simp only [hr, if_true]
  rw [vcs_append]
  rfl

/-- Two ascending lists, merged. -/
def mrg : List (Int × Int) → List (Int × Int) → List (Int × Int)
  | [], b => b
  | x :: a, [] => x :: a
  | x :: a, y :: b => if x.1 < y.1 then x :: mrg a (y :: b) else if y.1 < x.1 then y :: mrg (x :: a) b else (x.1, if x.2 < y.2 then y.2 else x.2) :: mrg a b
termination_by a b => a.length + b.length

theorem mrg_nil (a : List (Int × Int)) : mrg a [] = a := by cases a <;> simp [mrg]
theorem mrg_len (a b : List (Int × Int)) : (mrg a b).length ≤ a.length + b.length := by
  induction a, b using mrg.induct with
  | case1 b => simp [mrg]
  | case2 x a => simp [mrg]
  | case3 x a y b h ih => unfold mrg; rw [if_pos h]; simp only [List.length_cons] at ih ⊢; omega
  | case4 x a y b h h2 ih => unfold mrg; rw [if_neg h, if_pos h2]; simp only [List.length_cons] at ih ⊢; omega
  | case5 x a y b h h2 ih => unfold mrg; rw [if_neg h, if_neg h2]; simp only [List.length_cons] at ih ⊢; omega

/-- A slice to which is appended. -/
def Acc (l : List (Int × Int)) (s : V) (nb : Nat) (g : Nat → Blk) : Prop :=
  (l = [] ∧ s = .nils) ∨ ∃ r, r < nb ∧ s = .vs (vcs l) l.length 2 (.tok r l.length) ∧ g r = .tok l.length

/-- What a round leaves alone. -/
def Keeps (nb : Nat) (g g' : Nat → Blk) (bo L : Nat) : Prop := ∀ r, r < nb → r ≠ bo → r ≠ L → (∀ n, g r ≠ .tok n) → g' r = g r

theorem k17_17_run {f : Nat → V} {nb : Nat} {g : Nat → Blk} {d : List Nat} {L : Nat} {x : Int × Int} :
    Qc Tryz.prog hs ks ⟨17, some L⟩ k17_17 (S 39 (at1 f 28 (.agg [.int .i64 x.1, .int .i64 x.2])) [] (mkH nb g d)) =
      some [(.normal, S 39 (at1 (at1 f 28 (.agg [.int .i64 x.1, .int .i64 x.2])) 7 (.ptr nb 0)) [] (mkH (nb + 1) (atB (atB g nb (.row 0 [.int .i64 0, .int .i64 0])) nb (.row 0 [.int .i64 x.1, .int .i64 x.2])) (nb :: d)))] := by
  simp (disch := first | decide | omega) [sz74]

/-- A round's body. -/
theorem k17_18_run {f : Nat → V} {nb : Nat} {g : Nat → Blk} {d : List Nat} {L bo : Nat} {x : Int × Int} {c : Int} {acc : List (Int × Int)} {out : V}
    (hbo : bo < nb) (h6 : f 6 = .ptr bo 0) (h7 : f 7 = .ptr (nb - 1) 0) (hb1 : bo ≠ nb - 1) (hgb : g bo = .row 0 [.int .i64 c, out]) (hgx : g (nb - 1) = .row 0 [.int .i64 x.1, .int .i64 x.2])
    (hacc : Acc acc out nb g) (hlen : acc.length < 1000000) :
    AeEnds 39 (fun e _ nb' g' => e = .normal ∧ nb ≤ nb' ∧ (∃ out', g' bo = .row 0 [.int .i64 c, out'] ∧ Acc (acc ++ [x]) out' nb' g') ∧ ∀ r, r < nb → r ≠ bo → (∀ n, g r ≠ .tok n) → g' r = g r)
      (Qc Tryz.prog hs ks ⟨17, some L⟩ k17_18 (S 39 f [] (mkH nb g d))) := by
  have n1 : nb - 1 < nb := by omega
  have n2 : bo ≠ nb := by omega
  have l1 : ∀ a b : Int, litS Tryz.prog false 35 1 [(0, .agg [.int .i64 a, .int .i64 b])] nb = some { v := .vs (vcs [(a, b)]) 1 2 .tight } := fun a b => lit35 a b nb
  rcases hacc with ⟨rfl, rfl⟩ | ⟨r, hr, rfl, hgr⟩
  · simp (disch := first | decide | omega) [h6, h7, hgb, hgx, ld35, ld74, l1, app35_nil, sz35]
    refine AeEnds.mk ⟨rfl, by omega, ⟨_, atB_same _ _ _, Or.inr ⟨nb, by omega, ?_, ?_⟩⟩, ?_⟩
    · simp
    · rw [atB_ne _ _ (by omega), atB_same]; rfl
    · intro q h1 h2 h3
      rw [atB_ne _ _ h2, atB_ne _ _ (by omega)]
  · have hrb : r ≠ bo := by rintro rfl; rw [hgr] at hgb; cases hgb
    have happ := app35_tok (x.1, x.2) acc r (mkH nb g d).get nb ((get_mkH hr).trans hgr) hlen
    simp (disch := first | decide | omega) [h6, h7, hgb, hgx, ld35, ld74, l1, happ, sz35, hrb, hrb.symm]
    refine AeEnds.mk ⟨rfl, by omega, ⟨_, atB_same _ _ _, Or.inr ⟨r, by omega, ?_, ?_⟩⟩, ?_⟩
    · rw [List.length_append]; rfl
    · rw [atB_ne _ _ hrb, atB_same, List.length_append]; rfl
    · intro q h1 h2 h3
      rw [atB_ne _ _ h2, atB_ne _ _ (by rintro rfl; exact h3 _ hgr)]
end Go.Proofs.YtelobjfgghlkfaaGreat.El

/- Levels: merging. -/
set_option linter.unusedSimpArgs false
set_option linter.unusedVariables false
namespace Go.Proofs.YtelobjfgghlkfaaGreat.El
open Go Go.Ae
attribute [local simp] setF thenV_normal thenV_ret thenV_exit blockV_normal blockV_ret blockV_exit stepV_v stepV_some stepV_drop skipS_S thenC_ret S_get S_h S_dfs apply_v apply_wr apply_nw apply_wn at1_if atB_same atB_ne n_mkH get_mkH set_mkB new_mkB wantB_bool wantB_undef condV_true condV_false valS binV_int binV_str intOp_add intOp_sub intOp_eql intOp_neq intOp_lss intOp_leq intOp_gtr intOp_geq strOp_eql strOp_neq xPick_bool xUn_not ext_0 ext_1 ext_2 ext_3 addrAdd_ptr addrAdd_iptr xNilCheck_ptr build_C List.map cells_agg cells_int cells_bool cells_str cells_ptr cells_nils cells_vs xStore xLoad V.ones one_int one_bool one_str one_ptr one_nils one_vs splice resultVs_cons resultVs_nil resultV_tmp resultV_cell cellV_ptr resV_one resV_two resV_nil callOf_func callOf_yield callX_func thenC_noret stepD_vS stepD_rdS stepD_wrS stepD_nwS okD_nil okD_rd okD_wr okD_ww okD_rw okD_bef max2 eqBoolTT cond_true cond_false List.nil_append List.cons_append
attribute [local simp] k71_ret k71_nrm k71_c k71_1_c k71_2_c k71_4_c k71_4_0 k71_4_1 k71_4_2 k71_4_3 k71_4_4 k71_4_5 k71_4_6 k71_4_7 k71_4_8 k71_5_c k71_6_c k71_7_c k71_3_c k71_8_c k71_9_c k71_9_0 k71_9_1 k71_10_c k71_11_c k71_13_c k71_14_c k71_14_0 k71_14_1 k71_14_2 k71_14_3 k71_14_4 k71_14_5 k71_14_6 k71_14_7 k71_14_8 k71_14_9 k71_14_10 k71_14_11 k71_14_12 k71_14_13 k71_14_14 k71_14_15 k71_14_16 k71_14_17 k71_14_18 k71_14_19 k71_14_20 k71_15_c k71_16_c k71_16_0 k71_16_1 k71_16_2 k71_16_3 k71_16_4 k71_16_5 k71_16_6 k71_16_7 k71_17_c k71_18_c k71_18_0 k71_18_1 k71_18_2 k71_18_3 k71_18_4 k71_18_5 k71_18_6 k71_18_7 k71_18_8 k71_18_9 k71_18_10 k71_18_11 k71_18_12 k71_18_13 k71_18_14 k71_18_15 k71_19_c k71_20_c k71_20_0 k71_20_1 k71_20_2 k71_20_3 k71_20_4 k71_20_5 k71_20_6 k71_20_7 k71_21_c k71_22_c k71_22_0 k71_22_1 k71_22_2 k71_22_3 k71_22_4 k71_22_5 k71_22_6 k71_22_7 k71_22_8 k71_22_9 k71_22_10 k71_22_11 k71_22_12 k71_22_13 k71_22_14 k71_22_15 k71_23_c k71_23_0 k71_23_1 k71_23_2 k71_23_3 k71_23_4 k71_23_5 k71_23_6 k71_12_c k71_24_c k71_24_0 k71_24_1 k71_24_2 k71_24_3 k71_24_4 k71_25_c k71_26_c k71_27_c

/-- A round. -/
theorem rnd {f : Nat → V} {nb : Nat} {g : Nat → Blk} {d : List Nat} {L bo d0 : Nat} {x : Int × Int} {c : Int} {acc : List (Int × Int)} {out : V}
    (hL : L < nb) (hbo : bo < nb) (h6 : f 6 = .ptr bo 0) (hgL : g L = .loop 17 (mkT 20 39 f) [28] k17_17 k17_18 none .ready d0) (hgb : g bo = .row 0 [.int .i64 c, out])
    (hacc : Acc acc out nb g) (hlen : acc.length < 1000000) :
    ∃ nb' g' d' out', callX Tryz.prog hs ks (some (.round L [.agg [.int .i64 x.1, .int .i64 x.2]])) (mkH nb g d) = some [(.ret (.bool true), mkH nb' g' d')] ∧
      nb ≤ nb' ∧ g' L = g L ∧ g' bo = .row 0 [.int .i64 c, out'] ∧ Acc (acc ++ [x]) out' nb' g' ∧ Keeps nb g g' bo L := by
  have hne : bo ≠ L := by rintro rfl; rw [hgL] at hgb; cases hgb
  have hrun := k17_17_run (f := f) (nb := nb) (g := g) (d := d) (L := L) (x := x)
  have hacc' : Acc acc out (nb + 1) (atB (atB (atB g nb (.row 0 [.int .i64 0, .int .i64 0])) nb (.row 0 [.int .i64 x.1, .int .i64 x.2])) L (.loop 17 (mkT 20 39 f) [28] k17_17 k17_18 none .busy d0)) := by
    rcases hacc with h | ⟨r, hr, h1, h2⟩
    · exact Or.inl h
    · refine Or.inr ⟨r, by omega, h1, ?_⟩
      rw [atB_ne _ _ (by rintro rfl; rw [hgL] at h2; cases h2), atB_ne _ _ (by omega), atB_ne _ _ (by omega)]
      exact h2
  obtain ⟨e, f2, nb2, g2, d2, hb, rfl, hn, ⟨out', ho, ha⟩, hk⟩ := k17_18_run (f := at1 (at1 f 28 (.agg [.int .i64 x.1, .int .i64 x.2])) 7 (.ptr nb 0)) (nb := nb + 1)
    (g := atB (atB (atB g nb (.row 0 [.int .i64 0, .int .i64 0])) nb (.row 0 [.int .i64 x.1, .int .i64 x.2])) L (.loop 17 (mkT 20 39 f) [28] k17_17 k17_18 none .busy d0)) (d := L :: nb :: d) (L := L) (bo := bo) (x := x) (c := c)
    (by omega) (by simp [at1_if, h6]) (by simp [at1_if]) (by omega) (by rw [atB_ne _ _ hne, atB_ne _ _ (by omega), atB_ne _ _ (by omega)]; exact hgb)
    (by rw [show nb + 1 - 1 = nb by omega, atB_ne _ _ (by omega), atB_same]) hacc' hlen
  have hL2 : g2 L = .loop 17 (mkT 20 39 f) [28] k17_17 k17_18 none .busy d0 := by
    rw [hk L (by omega) (Ne.symm hne) (by intro n; rw [atB_same]; simp), atB_same]
  refine ⟨nb2, atB g2 L (.loop 17 (mkT 20 39 f) [28] k17_17 k17_18 none .ready d0), L :: d2, out', ?_, by omega, ?_, ?_, ?_, ?_⟩
  · rw [round_on (P := Tryz.prog) (hint := hs) (known := ks) (l := L) (n := 39) (f := f) (h := mkH nb g d) (args := [.agg [.int .i64 x.1, .int .i64 x.2]]) ((get_mkH hL).trans hgL) rfl hrun
      (by rw [get_mkH (by omega), atB_ne _ _ (by omega), atB_ne _ _ (by omega)]; exact hgL) (by rw [set_mkB]; exact hb) ((get_mkH (by omega)).trans hL2), set_mkB]
  · rw [atB_same, hgL]
  · rw [atB_ne _ _ hne]; exact ho
  · rcases ha with h | ⟨r, hr, h1, h2⟩
    · exact Or.inl h
    · refine Or.inr ⟨r, by omega, h1, ?_⟩
      rw [atB_ne _ _ (by rintro rfl; rw [hL2] at h2; cases h2)]
      exact h2
  · intro r h1 h2 h3 h4
    rw [atB_ne _ _ h3, hk r (by omega) h2 (by intro n; rw [atB_ne _ _ h3, atB_ne _ _ (by omega), atB_ne _ _ (by omega)]; exact h4 n), atB_ne _ _ h3, atB_ne _ _ (by omega), atB_ne _ _ (by omega)]

theorem rnd_of {f : Nat → V} {nb : Nat} {g : Nat → Blk} {d : List Nat} {L bo d0 : Nat} {x1 x2 : Int} {c : Int} {acc : List (Int × Int)} {out : V} {X : Option (List (R × H))}
    (hx : callX Tryz.prog hs ks (some (.round L [.agg [.int .i64 x1, .int .i64 x2]])) (mkH nb g d) = X)
    (hL : L < nb) (hbo : bo < nb) (h6 : f 6 = .ptr bo 0) (hgL : g L = .loop 17 (mkT 20 39 f) [28] k17_17 k17_18 none .ready d0) (hgb : g bo = .row 0 [.int .i64 c, out])
    (hacc : Acc acc out nb g) (hlen : acc.length < 1000000) :
    ∃ nb' g' d' out', X = some [(.ret (.bool true), mkH nb' g' d')] ∧
      nb ≤ nb' ∧ g' L = .loop 17 (mkT 20 39 f) [28] k17_17 k17_18 none .ready d0 ∧ g' bo = .row 0 [.int .i64 c, out'] ∧ Acc (acc ++ [(x1, x2)]) out' nb' g' ∧ Keeps nb g g' bo L := by
  obtain ⟨nb', g', d', out', h1, h2, h3, h4⟩ := rnd (d := d) (x := (x1, x2)) hL hbo h6 hgL hgb hacc hlen
  exact ⟨nb', g', d', out', hx ▸ h1, h2, h3.trans hgL, h4⟩

theorem Acc.new {acc : List (Int × Int)} {out : V} {nb nb' : Nat} {g : Nat → Blk} {b : Blk} (h : Acc acc out nb g) (hn : nb ≤ nb') : Acc acc out nb' (atB g nb b) := by
  rcases h with h | ⟨q, h1, h2, h3⟩
  · exact Or.inl h
  · refine Or.inr ⟨q, by omega, h2, ?_⟩
    rw [atB_ne _ _ (by omega)]
    exact h3
theorem Acc.row {acc : List (Int × Int)} {out : V} {nb r k : Nat} {g : Nat → Blk} {b : Blk} {cs : List V} (h : Acc acc out nb g) (hb : g r = .row k cs) : Acc acc out nb (atB g r b) := by
  rcases h with h | ⟨q, h1, h2, h3⟩
  · exact Or.inl h
  · refine Or.inr ⟨q, by omega, h2, ?_⟩
    rw [atB_ne _ _ (by rintro rfl; rw [hb] at h3; cases h3)]
    exact h3

/-- What merging comes to. -/
def Q71 (f17 : Nat → V) (L bo d0 A B : Nat) (c : Int) (nb : Nat) (g : Nat → Blk) (l : List (Int × Int)) (e : Ex) (_ : Nat → V) (nb' : Nat) (g' : Nat → Blk) : Prop :=
  e = .exit 0 ∧ nb ≤ nb' ∧ g' L = .loop 17 (mkT 20 39 f17) [28] k17_17 k17_18 none .ready d0 ∧ (∃ out', g' bo = .row 0 [.int .i64 c, out'] ∧ Acc l out' nb' g') ∧
      ∀ r, r < nb → r ≠ bo → r ≠ L → r ≠ A → r ≠ B → (∀ n, g r ≠ .tok n) → g' r = g r

/-- What holds while there is merging. -/
structure St71 (f17 : Nat → V) (L bo d0 A B : Nat) (c : Int) (nb : Nat) (g : Nat → Blk) (sa sb : V) (acc : List (Int × Int)) (out : V) : Prop where
  hA : A < nb
  hB : B < nb
  hL : L < nb
  hbo : bo < nb
  gA : g A = .row 0 [sa]
  gB : g B = .row 0 [sb]
  gb : g bo = .row 0 [.int .i64 c, out]
  gL : g L = .loop 17 (mkT 20 39 f17) [28] k17_17 k17_18 none .ready d0
  acc : Acc acc out nb g

theorem vcs_ld (x : Int × Int) (a : List (Int × Int)) : loadV Tryz.prog 74 (vcs (x :: a)) = some (.agg [.int .i64 x.1, .int .i64 x.2]) := by
  rw [ld74]; simp [vcs]
theorem ld74_2 (a b : V) : loadV Tryz.prog 74 [a, b] = some (.agg [a, b]) := by rw [ld74]; rfl
theorem vcs_le (x : Int × Int) (a : List (Int × Int)) : 1 ≤ (vcs (x :: a)).length := by simp [vcs]
theorem vcs_add1 (x : Int × Int) (a : List (Int × Int)) : addrAdd (.iptr (vcs (x :: a))) 1 = some (.iptr (.int .i64 x.2 :: vcs a)) := addrAdd_iptr (vcs_le x a)
theorem vcs_d1 (x : Int × Int) (a : List (Int × Int)) : (vcs (x :: a)).drop 1 = .int .i64 x.2 :: vcs a := rfl

set_option maxHeartbeats 4000000 in
theorem l71 {f17 : Nat → V} {L bo d0 A B : Nat} {c : Int} (h6 : f17 6 = .ptr bo 0) (hAB : A ≠ B) (hbA : bo ≠ A) (hbB : bo ≠ B) (hLA : L ≠ A) (hLB : L ≠ B) (hLb : bo ≠ L) : ∀ (k : Nat) (a b : List (Int × Int)) (sa sb : V) (f : Nat → V) (nb : Nat) (g : Nat → Blk) (d : List Nat) (acc : List (Int × Int)) (out : V),
    a.length + b.length ≤ k → IsVs a sa → IsVs b sb → acc.length + k < 1000000 → f 0 = .fn (.yield L) [] [] → f 1 = .ptr A 0 → f 2 = .ptr B 0 → St71 f17 L bo d0 A B c nb g sa sb acc out →
    AeEnds 80 (Q71 f17 L bo d0 A B c nb g (acc ++ mrg a b)) (Qc Tryz.prog hs ks ⟨71, none⟩ k71_0 (S 80 f [] (mkH nb g d))) := by
  intro k
  induction k with
  | zero =>
    intro a b sa sb f nb g d acc out hk hsa hsb hln h0 h1 h2 hst
    have ha : a = [] := List.eq_nil_of_length_eq_zero (by omega)
    have hb : b = [] := List.eq_nil_of_length_eq_zero (by omega)
    subst ha; subst hb
    obtain ⟨hA, hB, hL, hbo, hgA, hgB, hgb, hgL, hacc⟩ := hst
    rw [k71_0_l]
    simp (disch := first | decide | omega) [h0, h1, h2, hgA, hgB, ld35, hsa.len, hsb.len]
    exact AeEnds.mk ⟨rfl, by omega, hgL, ⟨out, hgb, by simpa [mrg] using hacc⟩, fun _ _ _ _ _ _ _ => rfl⟩
  | succ k ih =>
    intro a b sa sb f nb g d acc out hk hsa hsb hln h0 h1 h2 hst
    obtain ⟨hA, hB, hL, hbo, hgA, hgB, hgb, hgL, hacc⟩ := id hst
    have nA : A ≠ nb := by omega
    have nB : B ≠ nb := by omega
    have fin : ∀ (x : Int × Int) (a' b' : List (Int × Int)) (sa' sb' : V) (f' : Nat → V) (G : Nat → Blk) (D : List Nat), mrg a b = x :: mrg a' b' → a'.length + b'.length ≤ k → IsVs a' sa' → IsVs b' sb' →
        f' 0 = .fn (.yield L) [] [] → f' 1 = .ptr A 0 → f' 2 = .ptr B 0 → St71 f17 L bo d0 A B c (nb + 1) G sa' sb' acc out → (∀ r, r < nb → r ≠ A → r ≠ B → G r = g r) →
        AeEnds 80 (Q71 f17 L bo d0 A B c nb g (acc ++ mrg a b)) (thenV (blockV 1 (thenV (thenC (some 78) (S 80 f' [] (mkH (nb + 1) G D)) (callX Tryz.prog hs ks (some (.round L [.agg [.int .i64 x.1, .int .i64 x.2]])) (mkH (nb + 1) G D)) (Qo Tryz.prog hs ks k71_24 3 ⟨71, none⟩)) (Qc Tryz.prog hs ks ⟨71, none⟩ k71_25))) (Qc Tryz.prog hs ks ⟨71, none⟩ k71_0)) := by
      intro x a' b' sa' sb' f' G D hm hk' hsa' hsb' e0 e1 e2 hst' hGg
      obtain ⟨nb', g', d', out', hX', hn, hL', hb', hacc', hk''⟩ := rnd_of rfl hst'.hL hst'.hbo h6 hst'.gL hst'.gb hst'.acc (by omega)
      rw [hX']
      simp (disch := first | decide | omega)
      have kA := hk'' A hst'.hA (Ne.symm hbA) (Ne.symm hLA) (by rw [hst'.gA]; intro n; simp)
      have kB := hk'' B hst'.hB (Ne.symm hbB) (Ne.symm hLB) (by rw [hst'.gB]; intro n; simp)
      refine (ih a' b' sa' sb' _ nb' g' d' (acc ++ [x]) out' hk' hsa' hsb' (by rw [List.length_append]; simp only [List.length_cons, List.length_nil]; omega) ?_ ?_ ?_ ⟨by omega, by omega, by omega, by omega, kA.trans hst'.gA, kB.trans hst'.gB, hb', hL', hacc'⟩).weak ?_
      · simp [at1_if, e0]
      · simp [at1_if, e1]
      · simp [at1_if, e2]
      · rintro e f2 nb2 g2 ⟨r1, r2, r3, r4, r5⟩
        refine ⟨r1, by omega, r3, ?_, ?_⟩
        · rw [hm, show acc ++ x :: mrg a' b' = acc ++ [x] ++ mrg a' b' by simp]
          exact r4
        · intro r q1 q2 q3 q4 q5 q6
          have w1 := hGg r q1 q4 q5
          have w2 := hk'' r (by omega) q2 q3 (by rw [w1]; exact q6)
          rw [r5 r (by omega) q2 q3 q4 q5 (by rw [w2, w1]; exact q6), w2, w1]
    have lA : ∀ x l, a = x :: l → ∃ La : Int, 0 < La ∧ (La == 0) = false ∧ ∀ get n, builtinV Tryz.prog false get n .len [35] [sa] = some { v := .int .i64 La } := fun x l h => ⟨(a.length : Nat), by rw [h]; simp only [List.length_cons]; omega, by rw [h]; simp only [List.length_cons]; exact beq_false_of_ne (by omega), hsa.len⟩
    have lB : ∀ x l, b = x :: l → ∃ La : Int, 0 < La ∧ (La == 0) = false ∧ ∀ get n, builtinV Tryz.prog false get n .len [35] [sb] = some { v := .int .i64 La } := fun x l h => ⟨(b.length : Nat), by rw [h]; simp only [List.length_cons]; omega, by rw [h]; simp only [List.length_cons]; exact beq_false_of_ne (by omega), hsb.len⟩
    rw [k71_0_l]
    rcases a with _ | ⟨x, a⟩
    · rcases b with _ | ⟨y, b⟩
      · simp (disch := first | decide | omega) [h0, h1, h2, hgA, hgB, ld35, hsa.len, hsb.len]
        exact AeEnds.mk ⟨rfl, by omega, hgL, ⟨out, hgb, by simpa [mrg] using hacc⟩, fun _ _ _ _ _ _ _ => rfl⟩
      · obtain ⟨Lb, hLb0, hLb1, hlb⟩ := lB _ _ rfl
        obtain ⟨sb', ht, hsb'⟩ := hsb.tail
        have hix : indexAddr Tryz.prog 35 sb (.int .i64 0) = some (.iptr (vcs (y :: b))) := hsb.idx (i := 0) (by simp)
        simp (disch := first | decide | omega) [h0, h1, h2, hgA, hgB, ld35, hlb, hsa.len, hLb0, hLb1, hix, vcs_ld, ld74_2, ht, sz74, sz35, hsb'.one, hsb'.cells]
        refine fin y [] b sa sb' _ _ _ (by simp [mrg]) (by simp only [List.length_cons, List.length_nil] at hk ⊢; omega) hsa hsb' ?_ ?_ ?_ ⟨by omega, by omega, by omega, by omega, ?_, ?_, ?_, ?_, ((hacc.new (Nat.le_succ nb)).row (atB_same _ _ _)).row (by rw [atB_ne _ _ nB, atB_ne _ _ nB]; exact hgB)⟩ ?_
        · simp [at1_if, h0]
        · simp [at1_if, h1]
        · simp [at1_if, h2]
        · simp (disch := first | decide | omega) [atB_ne, hgA]
        · rw [atB_same]
        · simp (disch := first | decide | omega) [atB_ne, hgb]
        · simp (disch := first | decide | omega) [atB_ne, hgL]
        · intro r h1 h2 h3
          simp (disch := first | decide | omega) [atB_ne]
    · rcases b with _ | ⟨y, b⟩
      · obtain ⟨La, hLa0, hLa1, hla⟩ := lA _ _ rfl
        obtain ⟨sa', ht, hsa'⟩ := hsa.tail
        have hix : indexAddr Tryz.prog 35 sa (.int .i64 0) = some (.iptr (vcs (x :: a))) := hsa.idx (i := 0) (by simp)
        simp (disch := first | decide | omega) [h0, h1, h2, hgA, hgB, ld35, hla, hsb.len, hLa0, hLa1, hix, vcs_ld, ld74_2, ht, sz74, sz35, hsa'.one, hsa'.cells]
        refine fin x a [] sa' sb _ _ _ (by rw [mrg_nil, mrg_nil]) (by simp only [List.length_cons, List.length_nil] at hk ⊢; omega) hsa' hsb ?_ ?_ ?_ ⟨by omega, by omega, by omega, by omega, ?_, ?_, ?_, ?_, ((hacc.new (Nat.le_succ nb)).row (atB_same _ _ _)).row (by rw [atB_ne _ _ nA, atB_ne _ _ nA]; exact hgA)⟩ ?_
        · simp [at1_if, h0]
        · simp [at1_if, h1]
        · simp [at1_if, h2]
        · rw [atB_same]
        · simp (disch := first | decide | omega) [atB_ne, hgB]
        · simp (disch := first | decide | omega) [atB_ne, hgb]
        · simp (disch := first | decide | omega) [atB_ne, hgL]
        · intro r h1 h2 h3
          simp (disch := first | decide | omega) [atB_ne]
      · obtain ⟨La, hLa0, hLa1, hla⟩ := lA _ _ rfl
        obtain ⟨Lb, hLb0, hLb1, hlb⟩ := lB _ _ rfl
        obtain ⟨sa', ht, hsa'⟩ := hsa.tail
        obtain ⟨sb', ht', hsb'⟩ := hsb.tail
        have hix : indexAddr Tryz.prog 35 sa (.int .i64 0) = some (.iptr (vcs (x :: a))) := hsa.idx (i := 0) (by simp)
        have hix' : indexAddr Tryz.prog 35 sb (.int .i64 0) = some (.iptr (vcs (y :: b))) := hsb.idx (i := 0) (by simp)
        have hd0 : ∀ (t : Int × Int) (l : List (Int × Int)), loadV Tryz.prog 3 (vcs (t :: l)) = some (.int .i64 t.1) := fun t l => by rw [ld3]; rfl
        have hd1 : ∀ (t : Int × Int) (l : List (Int × Int)), loadV Tryz.prog 3 (.int .i64 t.2 :: vcs l) = some (.int .i64 t.2) := fun t l => by rw [ld3]; rfl
        by_cases hxy : x.1 < y.1
        · simp (disch := first | decide | omega) [h0, h1, h2, hgA, hgB, ld35, hla, hlb, hLa0, hLa1, hLb0, hLb1, hix, hix', vcs_add1, hd0, hd1, vcs_ld, ld74_2, ht, ht', sz74, sz35, hsa'.one, hsa'.cells, hsb'.one, hsb'.cells, hxy]
          refine fin x a (y :: b) sa' sb _ _ _ (by rw [mrg, if_pos hxy]) (by simp only [List.length_cons] at hk ⊢; omega) hsa' hsb ?_ ?_ ?_ ⟨by omega, by omega, by omega, by omega, ?_, ?_, ?_, ?_, ((hacc.new (Nat.le_succ nb)).row (atB_same _ _ _)).row (by rw [atB_ne _ _ nA, atB_ne _ _ nA]; exact hgA)⟩ ?_
          · simp [at1_if, h0]
          · simp [at1_if, h1]
          · simp [at1_if, h2]
          · rw [atB_same]
          · simp (disch := first | decide | omega) [atB_ne, hgB]
          · simp (disch := first | decide | omega) [atB_ne, hgb]
          · simp (disch := first | decide | omega) [atB_ne, hgL]
          · intro r h1 h2 h3
            simp (disch := first | decide | omega) [atB_ne]
        · by_cases hyx : y.1 < x.1
          · simp (disch := first | decide | omega) [h0, h1, h2, hgA, hgB, ld35, hla, hlb, hLa0, hLa1, hLb0, hLb1, hix, hix', vcs_add1, hd0, hd1, vcs_ld, ld74_2, ht, ht', sz74, sz35, hsa'.one, hsa'.cells, hsb'.one, hsb'.cells, hxy, hyx]
            refine fin y (x :: a) b sa sb' _ _ _ (by rw [mrg, if_neg hxy, if_pos hyx]) (by simp only [List.length_cons] at hk ⊢; omega) hsa hsb' ?_ ?_ ?_ ⟨by omega, by omega, by omega, by omega, ?_, ?_, ?_, ?_, ((hacc.new (Nat.le_succ nb)).row (atB_same _ _ _)).row (by rw [atB_ne _ _ nB, atB_ne _ _ nB]; exact hgB)⟩ ?_
            · simp [at1_if, h0]
            · simp [at1_if, h1]
            · simp [at1_if, h2]
            · simp (disch := first | decide | omega) [atB_ne, hgA]
            · rw [atB_same]
            · simp (disch := first | decide | omega) [atB_ne, hgb]
            · simp (disch := first | decide | omega) [atB_ne, hgL]
            · intro r h1 h2 h3
              simp (disch := first | decide | omega) [atB_ne]
          · simp (disch := first | decide | omega) [h0, h1, h2, hgA, hgB, ld35, hla, hlb, hLa0, hLa1, hLb0, hLb1, hix, hix', vcs_add1, hd0, hd1, vcs_ld, ld74_2, ht, ht', sz74, sz35, hsa'.one, hsa'.cells, hsb'.one, hsb'.cells, hxy, hyx, bd74_01]
            refine fin (x.1, if x.2 < y.2 then y.2 else x.2) a b sa' sb' _ _ _ (by rw [mrg, if_neg hxy, if_neg hyx]) (by simp only [List.length_cons] at hk ⊢; omega) hsa' hsb' ?_ ?_ ?_ ⟨by omega, by omega, by omega, by omega, ?_, ?_, ?_, ?_, (((hacc.new (Nat.le_succ nb)).row (atB_same _ _ _)).row (by rw [atB_ne _ _ nA, atB_ne _ _ nA]; exact hgA)).row (by rw [atB_ne _ _ hAB.symm, atB_ne _ _ nB, atB_ne _ _ nB]; exact hgB)⟩ ?_
            · simp [at1_if, h0]
            · simp [at1_if, h1]
            · simp [at1_if, h2]
            · simp (disch := first | decide | omega) [atB_ne, atB_same]
            · rw [atB_same]
            · simp (disch := first | decide | omega) [atB_ne, hgb]
            · simp (disch := first | decide | omega) [atB_ne, hgL]
            · intro r h1 h2 h3
              simp (disch := first | decide | omega) [atB_ne]
end Go.Proofs.YtelobjfgghlkfaaGreat.El

/- Levels: the maximum. -/
set_option linter.unusedSimpArgs false
set_option linter.unusedVariables false
namespace Go.Proofs.YtelobjfgghlkfaaGreat.El
open Go Go.Ae
attribute [local simp] setF thenV_normal thenV_ret thenV_exit blockV_normal blockV_ret blockV_exit stepV_v stepV_some stepV_drop skipS_S thenC_ret S_get S_h S_dfs apply_v apply_wr apply_nw apply_wn at1_if atB_same atB_ne n_mkH get_mkH set_mkB new_mkB wantB_bool wantB_undef condV_true condV_false valS binV_int binV_str intOp_add intOp_sub intOp_eql intOp_neq intOp_lss intOp_leq intOp_gtr intOp_geq strOp_eql strOp_neq xPick_bool xUn_not ext_0 ext_1 ext_2 ext_3 addrAdd_ptr addrAdd_iptr xNilCheck_ptr build_C List.map cells_agg cells_int cells_bool cells_str cells_ptr cells_nils cells_vs xStore xLoad V.ones one_int one_bool one_str one_ptr one_nils one_vs splice resultVs_cons resultVs_nil resultV_tmp resultV_cell cellV_ptr resV_one resV_two resV_nil callOf_func callOf_yield callX_func thenC_noret stepD_vS stepD_rdS stepD_wrS stepD_nwS okD_nil okD_rd okD_wr okD_ww okD_rw okD_bef max2 eqBoolTT cond_true cond_false List.nil_append List.cons_append
attribute [local simp] k17_ret k17_nrm k17_c k17_0_c k17_0_0 k17_0_1 k17_0_2 k17_0_3 k17_0_4 k17_1_c k17_2_c k17_4_c k17_4_0 k17_4_1 k17_4_2 k17_4_3 k17_4_4 k17_4_5 k17_4_6 k17_4_7 k17_4_8 k17_5_c k17_6_c k17_8_c k17_8_0 k17_8_1 k17_8_2 k17_8_3 k17_9_c k17_7_c k17_3_c k17_10_c k17_10_0 k17_10_1 k17_10_2 k17_10_3 k17_10_4 k17_10_5 k17_10_6 k17_10_7 k17_10_8 k17_11_c k17_12_c k17_14_c k17_14_0 k17_14_1 k17_14_2 k17_14_3 k17_14_4 k17_14_5 k17_15_c k17_17_c k17_17_0 k17_17_1 k17_17_2 k17_18_c k17_19_c k17_19_0 k17_19_1 k17_19_2 k17_19_3 k17_19_4 k17_19_5 k17_19_6 k17_19_7 k17_13_c k17_20_c k17_20_0 k17_20_1 k17_20_2 k17_20_3 k17_20_4 k17_20_5 k17_20_6 k17_21_c k41_ret k41_nrm k41_c k41_0_c k41_0_0 k41_0_1 k41_0_2 k41_0_3 k41_1_c k41_2_c k41_2_0 k41_2_1 k41_2_2 k41_3_c k71_ret k71_nrm k71_c k71_1_c k71_2_c k71_4_c k71_4_0 k71_4_1 k71_4_2 k71_4_3 k71_4_4 k71_4_5 k71_4_6 k71_4_7 k71_4_8 k71_5_c k71_6_c k71_7_c k71_3_c k71_8_c k71_9_c k71_9_0 k71_9_1 k71_10_c k71_11_c k71_13_c k71_14_c k71_14_0 k71_14_1 k71_14_2 k71_14_3 k71_14_4 k71_14_5 k71_14_6 k71_14_7 k71_14_8 k71_14_9 k71_14_10 k71_14_11 k71_14_12 k71_14_13 k71_14_14 k71_14_15 k71_14_16 k71_14_17 k71_14_18 k71_14_19 k71_14_20 k71_15_c k71_16_c k71_16_0 k71_16_1 k71_16_2 k71_16_3 k71_16_4 k71_16_5 k71_16_6 k71_16_7 k71_17_c k71_18_c k71_18_0 k71_18_1 k71_18_2 k71_18_3 k71_18_4 k71_18_5 k71_18_6 k71_18_7 k71_18_8 k71_18_9 k71_18_10 k71_18_11 k71_18_12 k71_18_13 k71_18_14 k71_18_15 k71_19_c k71_20_c k71_20_0 k71_20_1 k71_20_2 k71_20_3 k71_20_4 k71_20_5 k71_20_6 k71_20_7 k71_21_c k71_22_c k71_22_0 k71_22_1 k71_22_2 k71_22_3 k71_22_4 k71_22_5 k71_22_6 k71_22_7 k71_22_8 k71_22_9 k71_22_10 k71_22_11 k71_22_12 k71_22_13 k71_22_14 k71_22_15 k71_23_c k71_23_0 k71_23_1 k71_23_2 k71_23_3 k71_23_4 k71_23_5 k71_23_6 k71_12_c k71_24_c k71_24_0 k71_24_1 k71_24_2 k71_24_3 k71_24_4 k71_25_c k71_26_c k71_27_c

theorem IsVs.shift {l : List (Int × Int)} {s : V} (h : IsVs l s) (n : Nat) : s.shift n = s := by
  rcases h.is with ⟨rfl, rfl⟩ | ⟨own, rfl, rfl | rfl⟩ <;> rfl

theorem f41 {a b : List (Int × Int)} {sa sb : V} (ha : IsVs a sa) (hb : IsVs b sb) (nb : Nat) (g : Nat → Blk) (d : List Nat) :
    callS Tryz.prog hs ks 41 [sa, sb] (mkH nb g d) = some [(.ret (.fn (.func 71) [] [.ptr nb 0, .ptr (nb + 1) 0]), mkH (nb + 2) (atB (atB g nb (.row 0 [sa])) (nb + 1) (.row 0 [sb])) d)] := by
  have hseal : V.seals [sa, sb] = [sa, sb] := by show [sa.shut, sb.shut] = _; rw [ha.shut, hb.shut]
  have hc : (EV Tryz.prog hs ks).call 41 [sa, sb] H.empty = some [(.ret (.fn (.func 71) [] [.ptr 0 0, .ptr 1 0]), mkH 2 (atB (atB (fun _ => Blk.gone) 0 (.row 0 [sa])) 1 (.row 0 [sb])) [])] := by
    rw [k41_fun _ (by simp), empty_mkH]
    simp (disch := first | decide | omega) [ha.cells, hb.cells]
  unfold callS
  rw [hseal, if_pos (by show (V.pure sa && (V.pure sb && true)) = true; rw [ha.pure, hb.pure]; rfl)]
  have hp : callP hs ks (EV Tryz.prog hs ks) 41 [sa, sb] nb = some [{ v := .fn (.func 71) [] [.ptr nb 0, .ptr (nb + 1) 0], nw := [.row 0 [sa], .row 0 [sb]] }] := by
    unfold callP
    rw [show ks.call 41 [sa, sb] = none from rfl]
    simp only
    rw [hc]
    simp only
    have hl : leaveE hs 41 nb (.ret (.fn (.func 71) [] [.ptr 0 0, .ptr 1 0]), mkH 2 (atB (atB (fun _ => Blk.gone) 0 (.row 0 [sa])) 1 (.row 0 [sb])) []) = some { v := .fn (.func 71) [] [.ptr nb 0, .ptr (nb + 1) 0], nw := [.row 0 [sa], .row 0 [sb]] } := by
      have e0 : (mkH 2 (atB (atB (fun _ => Blk.gone) 0 (.row 0 [sa])) 1 (.row 0 [sb])) []).get 0 = .row 0 [sa] := by rw [get_mkH (by decide)]; rfl
      have e1 : (mkH 2 (atB (atB (fun _ => Blk.gone) 0 (.row 0 [sa])) 1 (.row 0 [sb])) []).get 1 = .row 0 [sb] := by rw [get_mkH (by decide)]; rfl
      show some (Eff.mk (V.shift nb (.fn (.func 71) [] [.ptr 0 0, .ptr 1 0])) [] [] [Blk.shift nb ((mkH 2 _ []).get 0), Blk.shift nb ((mkH 2 _ []).get 1)] false) = _
      rw [e0, e1]
      show some (Eff.mk (.fn (.func 71) [] [.ptr (nb + 0) 0, .ptr (nb + 1) 0]) [] [] [.row 0 [sa.shift nb], .row 0 [sb.shift nb]] false) = _
      rw [ha.shift, hb.shift]; rfl
    unfold allO
    rw [hl]
    rfl
  show (match callP hs ks (EV Tryz.prog hs ks) 41 [sa, sb] nb with
    | some es => some (es.map fun e : Eff => (cond e.pan (R.pan e.v) (R.ret e.v), e.apply (mkH nb g d)))
    | none => none) = _
  rw [hp]
  show some [(R.ret _, ((mkH nb g d).new _).new _)] = _
  rw [new_mkB, new_mkB]

theorem f71 {f17 : Nat → V} {L bo d0 A B : Nat} {c : Int} (h6 : f17 6 = .ptr bo 0) (hAB : A ≠ B) (hbA : bo ≠ A) (hbB : bo ≠ B) (hLA : L ≠ A) (hLB : L ≠ B) (hLb : bo ≠ L) {a b : List (Int × Int)} {sa sb : V} {nb : Nat} {g : Nat → Blk} {d : List Nat}
    (hsa : IsVs a sa) (hsb : IsVs b sb) (hln : a.length + b.length < 1000000) (hst : St71 f17 L bo d0 A B c nb g sa sb [] .nils) :
    ∃ nb' g' d' f', (EV Tryz.prog hs ks).call 71 [.fn (.yield L) [] [], .ptr A 0, .ptr B 0] (mkH nb g d) = some [(.ret (.tup []), mkH nb' g' d')] ∧ Q71 f17 L bo d0 A B c nb g (mrg a b) (.exit 0) f' nb' g' := by
  rw [k71_fun _ (by simp)]
  generalize hf : setF [V.fn (.yield L) [] [], .ptr A 0, .ptr B 0] 0 (fun _ => undefV) = f
  obtain ⟨e, f', nb', g', d', h1, h2⟩ := l71 h6 hAB hbA hbB hLA hLB hLb (a.length + b.length) a b sa sb f nb g d [] .nils (Nat.le_refl _) hsa hsb (by simpa using hln) (by rw [← hf]; rfl) (by rw [← hf]; rfl) (by rw [← hf]; rfl) hst
  obtain rfl := h2.1
  refine ⟨nb', g', d', f', ?_, by simpa using h2⟩
  simp (disch := first | decide | omega) [h1]

theorem k17_16_rf {f : Nat → V} {dfs : List D} {hh : H} {gf : FuncId} {first cap : List V} (hf : (S 39 f dfs hh).regs.get undefV 27 = V.fn (.func gf) first cap) :
    Qc Tryz.prog hs ks ⟨17, none⟩ k17_16 (S 39 f dfs hh) = match (EV Tryz.prog hs ks).call gf (first ++ [V.fn (.yield (hh.n + 1)) [] []] ++ cap) ((hh.new .dfr).new (.loop 17 (mkT 20 39 f) [28] k17_17 k17_18 none .ready hh.n)) with
      | some outs => bindO (rangeE (EV Tryz.prog hs ks) ⟨17, none⟩ (S 39 f dfs hh) (.mark hh.n :: dfs) (hh.n + 1)) outs
      | none => none :=
  Qc_range (c := k17_16) (a := k17_17) (b := k17_18) (t := 27) (pa := #[28]) (ps := [28]) (by kernel_rfl) rfl hf

theorem range_endS {P : Program} {hint : Hint} {known : Known} {cx : Cx} {n : Nat} {f : Nat → V} {dfs0 : List D} {h0 : H} {dfs : List D} {l : Nat} {v : V} {h : H} {fn d : Nat} {regs : T V} {ps : List Tmp} {a b : Code} (hl : h.get l = .loop fn regs ps a b none .ready d) :
    bindO (rangeE (EV P hint known) cx (S n f dfs0 h0) dfs l) [(.ret v, h)] = some [(.normal, S n f dfs (h.set l (.loop fn regs ps a b none .exhausted d)))] := range_end hl

/-- The maximum. -/
def mx (a b : Int) : Int := if a < b then b else a

theorem Acc.shut {l : List (Int × Int)} {s : V} {nb : Nat} {g : Nat → Blk} (h : Acc l s nb g) : IsVs l s.shut ∧ s.cells = [s] ∧ s.one = true := by
  rcases h with ⟨rfl, rfl⟩ | ⟨r, _, rfl, _⟩
  · exact ⟨IsVs.nil, rfl, rfl⟩
  · exact ⟨⟨Or.inr ⟨.lock, rfl, Or.inr rfl⟩⟩, rfl, rfl⟩

theorem mrg_mem {x : Int × Int} : ∀ (a b : List (Int × Int)) {P : Int × Int → Prop}, (∀ y ∈ a, P y) → (∀ y ∈ b, P y) → (∀ i p q, P (i, p) → P (i, q) → P (i, mx p q)) → x ∈ mrg a b → P x := by
  intro a b P ha hb hm hx
  induction a, b using mrg.induct with
  | case1 b => rw [mrg] at hx; exact hb _ hx
  | case2 y a => rw [mrg] at hx; exact ha _ hx
  | case3 y a z b h ih =>
    rw [mrg, if_pos h] at hx
    rcases List.mem_cons.1 hx with rfl | hx
    · exact ha _ (List.mem_cons_self ..)
    · exact ih (fun w hw => ha w (List.mem_cons_of_mem _ hw)) hb hx
  | case4 y a z b h h2 ih =>
    rw [mrg, if_neg h, if_pos h2] at hx
    rcases List.mem_cons.1 hx with rfl | hx
    · exact hb _ (List.mem_cons_self ..)
    · exact ih ha (fun w hw => hb w (List.mem_cons_of_mem _ hw)) hx
  | case5 y a z b h h2 ih =>
    rw [mrg, if_neg h, if_neg h2] at hx
    rcases List.mem_cons.1 hx with rfl | hx
    · have e : y.1 = z.1 := by omega
      exact hm _ _ _ (ha y (List.mem_cons_self ..)) (by rw [e]; exact hb z (List.mem_cons_self ..))
    · exact ih (fun w hw => ha w (List.mem_cons_of_mem _ hw)) (fun w hw => hb w (List.mem_cons_of_mem _ hw)) hx

theorem mrg_asc : ∀ (a b : List (Int × Int)), (a.Pairwise fun x y => x.1 < y.1) → (b.Pairwise fun x y => x.1 < y.1) → (mrg a b).Pairwise fun x y => x.1 < y.1 := by
  intro a b ha hb
  have mm : ∀ (lo : Int) (i p q : Int), lo < (i, p).1 → lo < (i, q).1 → lo < (i, mx p q).1 := fun _ _ _ _ h _ => h
  induction a, b using mrg.induct with
  | case1 b => rw [mrg]; exact hb
  | case2 y a => rw [mrg]; exact ha
  | case3 y a z b h ih =>
    rw [mrg, if_pos h]
    obtain ⟨h1, h2⟩ := List.pairwise_cons.1 ha
    refine List.pairwise_cons.2 ⟨fun w hw => mrg_mem a (z :: b) (P := fun w => y.1 < w.1) h1 (fun w hw => ?_) (mm y.1) hw, ih h2 hb⟩
    rcases List.mem_cons.1 hw with rfl | hw
    · exact h
    · have := (List.pairwise_cons.1 hb).1 w hw; omega
  | case4 y a z b h h2 ih =>
    rw [mrg, if_neg h, if_pos h2]
    obtain ⟨h3, h4⟩ := List.pairwise_cons.1 hb
    refine List.pairwise_cons.2 ⟨fun w hw => mrg_mem (y :: a) b (P := fun w => z.1 < w.1) (fun w hw => ?_) h3 (mm z.1) hw, ih ha h4⟩
    rcases List.mem_cons.1 hw with rfl | hw
    · exact h2
    · have := (List.pairwise_cons.1 ha).1 w hw; omega
  | case5 y a z b h h2 ih =>
    rw [mrg, if_neg h, if_neg h2]
    obtain ⟨h3, h4⟩ := List.pairwise_cons.1 hb
    obtain ⟨h5, h6⟩ := List.pairwise_cons.1 ha
    have e : y.1 = z.1 := by omega
    refine List.pairwise_cons.2 ⟨fun w hw => mrg_mem a b (P := fun w => y.1 < w.1) h5 (fun w hw => by have := h3 w hw; omega) (mm y.1) hw, ih h6 h4⟩

theorem lim_cov (c : Int) (l : List (Int × Int)) (hv : ∀ x ∈ l, 0 ≤ x.2) : 0 < lim c l → cov (lim c l) l = false := by
  unfold lim
  split
  · intro h; omega
  · rename_i h
    intro _
    simpa using h

/-- The maximum of valid levels is valid. -/
theorem Good.max {c1 c2 : Int} {a b : List (Int × Int)} (h1 : Good c1 a) (h2 : Good c2 b) : Good (lim (mx c1 c2) (mrg a b)) (mrg a b) := by
  have hv : ∀ x ∈ mrg a b, -65536 ≤ x.1 ∧ x.1 ≤ 7 ∧ 0 ≤ x.2 ∧ x.2 ≤ 100 := fun x hx => mrg_mem a b (P := fun x => -65536 ≤ x.1 ∧ x.1 ≤ 7 ∧ 0 ≤ x.2 ∧ x.2 ≤ 100) h1.vars h2.vars (fun i p q hp hq => by
    unfold mx
    split <;> assumption) hx
  have a1 := h1.c0
  have a2 := h1.c1
  have a3 := h2.c0
  have a4 := h2.c1
  have b1 : 0 ≤ mx c1 c2 ∧ mx c1 c2 ≤ 100 := by unfold mx; split <;> omega
  refine ⟨?_, ?_, hv, mrg_asc a b h1.asc h2.asc, lim_cov _ _ fun x hx => (hv x hx).2.2.1⟩
  · unfold lim; split <;> omega
  · unfold lim; split <;> omega

theorem f17 {c1 c2 : Int} {a b : List (Int × Int)} {sa sb : V} (h1 : Good c1 a) (h2 : Good c2 b) (ha : IsVs a sa) (hb : IsVs b sb) :
    ∃ s', IsVs (mrg a b) s' ∧ ∀ h, callS Tryz.prog hs ks 17 [lvl c1 sa, lvl c2 sb] h = some [(.ret (.tup [lvl (lim (mx c1 c2) (mrg a b)) s', .int .i64 0]), h)] := by
  have la := h1.len
  have lb := h2.len
  have lm := mrg_len a b
  have key : ∃ s' h1, IsVs (mrg a b) s' ∧ (EV Tryz.prog hs ks).call 17 [lvl c1 sa, lvl c2 sb] H.empty = some [(.ret (.tup [lvl (lim (mx c1 c2) (mrg a b)) s', .int .i64 0]), h1)] := by
    rw [k17_fun _ (by simp), empty_mkH]
    have v1 : ∀ h, callS Tryz.prog hs ks 40 [.agg [.int .i64 c1, sa]] h = some [(.ret (.bool true), h)] := f40 h1 ha
    have v2 : ∀ h, callS Tryz.prog hs ks 40 [.agg [.int .i64 c2, sb]] h = some [(.ret (.bool true), h)] := f40 h2 hb
    simp (disch := first | decide | omega) [lvl, v1, v2, ld37, ld3, ld35, bd37_0, sz37, f41 ha hb]
    generalize hF : at1 _ 27 (V.fn (Fn.func 71) [] [V.ptr 4 0, V.ptr 5 0]) = F
    have F27 : F 27 = V.fn (Fn.func 71) [] [V.ptr 4 0, V.ptr 5 0] := by rw [← hF]; simp [at1_if]
    have F6 : F 6 = .ptr 3 0 := by rw [← hF]; simp [at1_if]
    have F4 : F 4 = .ptr 2 0 := by rw [← hF]; simp [at1_if]
    clear hF
    generalize hG : atB _ 5 (Blk.row 0 [sb]) = G
    have G2 : G 2 = .row 0 [.int .i64 0, .nils] := by rw [← hG]; rfl
    have G3 : G 3 = .row 0 [.int .i64 (mx c1 c2), .nils] := by rw [← hG]; rfl
    have G4 : G 4 = .row 0 [sa] := by rw [← hG]; rfl
    have G5 : G 5 = .row 0 [sb] := by rw [← hG]; rfl
    clear hG
    rw [k17_16_rf (gf := 71) (first := []) (cap := [.ptr 4 0, .ptr 5 0]) ((S_get (by decide) (by decide)).trans F27)]
    simp only [n_mkH, new_mkB]
    obtain ⟨nb', g', d', f', hc, -, hn, hL', ⟨out', hb', hacc⟩, hk⟩ := f71 (f17 := F) (L := 7) (bo := 3) (d0 := 6) (A := 4) (B := 5) (c := mx c1 c2) (nb := 8)
      (g := atB (atB G 6 .dfr) 7 (.loop 17 (mkT 20 39 F) [28] k17_17 k17_18 none .ready 6)) (d := [3]) F6 (by decide) (by decide) (by decide) (by decide) (by decide) (by decide) ha hb (by omega)
      ⟨by decide, by decide, by decide, by decide, G4, G5, G3, rfl, Or.inl ⟨rfl, rfl⟩⟩
    have g2 : g' 2 = .row 0 [.int .i64 0, .nils] := (hk 2 (by decide) (by decide) (by decide) (by decide) (by decide) (fun n => by show G 2 ≠ _; rw [G2]; simp)).trans G2
    have g6 : g' 6 = .dfr := hk 6 (by decide) (by decide) (by decide) (by decide) (by decide) (fun n => by show Blk.dfr ≠ _; simp)
    rw [show ([] ++ [V.fn (Fn.yield 7) [] []] ++ [V.ptr 4 0, V.ptr 5 0]) = [V.fn (Fn.yield 7) [] [], V.ptr 4 0, V.ptr 5 0] from rfl, hc]
    simp only
    rw [range_endS ((get_mkH (by omega)).trans hL'), set_mkB]
    obtain ⟨q1, q2, q3⟩ := hacc.shut
    have hlen : (mrg a b).length < 1099511627776 := by omega
    have hcm : mx c1 c2 ≤ 100 := by
      have := h1.c1
      have := h2.c1
      unfold mx; split <;> omega
    have hv : ∀ x ∈ mrg a b, x.2 ≤ 100 := fun x hx => ((h1.max h2).vars x hx).2.2.2
    have v3 : ∀ h, callS Tryz.prog hs ks 42 [.agg [.int .i64 (mx c1 c2), out']] h = some [(.ret (.tup [.agg [.int .i64 (lim (mx c1 c2) (mrg a b)), out'.shut], .int .i64 0]), h)] := f42 hv hlen hcm rfl q1
    refine ⟨out'.shut, ?_⟩
    refine ⟨q1, ?_⟩
    have hmark : ∀ (f : Nat → V) (h : H), h.get 6 = .dfr → endsV Tryz.prog hs ks Tryz.f17 (some [(.ret, S 39 f [.mark 6] h)]) = resV (resultVs Tryz.prog (S 39 f [] (h.set 6 .gone)) [.cell 4 37, .tmp 5]) (h.set 6 .gone) := fun f h hr => ends_mark (by kernel_rfl) hr
    have n2 : 2 < nb' := by omega
    have n3 : 3 < nb' := by omega
    have n6 : 6 < nb' := by omega
    simp (disch := first | decide | omega) [F4, F6, g2, hb', v3, ld37, sz37, q1.one]
    rw [hmark _ _ (by rw [get_mkH (by omega), atB_ne _ _ (by decide), atB_ne _ _ (by decide)]; exact g6)]
    simp (disch := first | decide | omega) [F4, ld37]
  obtain ⟨s', h1, hs', hc⟩ := key
  exact ⟨s', hs', fun h => callS_of (args' := [lvl c1 sa, lvl c2 sb]) (by show [V.agg [_, sa.shut], V.agg [_, sb.shut]] = _; rw [ha.shut, hb.shut]; rfl) (by show (V.pure sa && true && (V.pure sb && true && true)) = true; rw [ha.pure, hb.pure]; rfl) rfl rfl hc (fun n => ret_lvl hs' _ _ n h1) h⟩
end Go.Proofs.YtelobjfgghlkfaaGreat.El

/- Levels: the reference's maximum. -/
set_option linter.unusedSimpArgs false
set_option linter.unusedVariables false
namespace Go.Proofs.YtelobjfgghlkfaaGreat.El
open Go Go.Ae
attribute [local simp] setF thenV_normal thenV_ret thenV_exit blockV_normal blockV_ret blockV_exit stepV_v stepV_some stepV_drop skipS_S thenC_ret S_get S_h S_dfs apply_v apply_wr apply_nw apply_wn at1_if atB_same atB_ne n_mkH get_mkH set_mkB new_mkB wantB_bool wantB_undef condV_true condV_false valS binV_int binV_str intOp_add intOp_sub intOp_eql intOp_neq intOp_lss intOp_leq intOp_gtr intOp_geq strOp_eql strOp_neq xPick_bool xUn_not ext_0 ext_1 ext_2 ext_3 addrAdd_ptr addrAdd_iptr xNilCheck_ptr build_C List.map cells_agg cells_int cells_bool cells_str cells_ptr cells_nils cells_vs xStore xLoad V.ones one_int one_bool one_str one_ptr one_nils one_vs splice resultVs_cons resultVs_nil resultV_tmp resultV_cell cellV_ptr resV_one resV_two resV_nil callOf_func callOf_yield callX_func thenC_noret stepD_vS stepD_rdS stepD_wrS stepD_nwS okD_nil okD_rd okD_wr okD_ww okD_rw okD_bef max2 eqBoolTT cond_true cond_false List.nil_append List.cons_append
attribute [local simp] k20_ret k20_nrm k20_c k20_0_c k20_0_0 k20_0_1 k20_0_2 k20_0_3 k20_0_4 k20_1_c k20_2_c k20_4_c k20_4_0 k20_4_1 k20_4_2 k20_4_3 k20_4_4 k20_4_5 k20_4_6 k20_4_7 k20_4_8 k20_5_c k20_6_c k20_8_c k20_8_0 k20_8_1 k20_8_2 k20_8_3 k20_9_c k20_7_c k20_3_c k20_10_c k20_10_0 k20_10_1 k20_10_2 k20_10_3 k20_10_4 k20_10_5 k20_11_c k45_ret k45_nrm k45_c k45_0_c k45_0_0 k45_0_1 k45_0_2 k45_0_3 k45_1_c k45_2_c k45_2_0 k45_2_1 k45_2_2 k45_2_3 k45_2_4 k45_2_5 k45_2_6 k45_2_7 k45_2_8 k45_3_c k45_4_c k45_4_0 k45_4_1 k45_4_2 k45_5_c k45_6_c k45_6_0 k45_6_1 k45_7_c k45_8_c k45_11_c k45_12_c k45_14_c k45_14_0 k45_14_1 k45_14_2 k45_14_3 k45_14_4 k45_14_5 k45_14_6 k45_14_7 k45_14_8 k45_14_9 k45_14_10 k45_14_11 k45_14_12 k45_15_c k45_16_c k45_17_c k45_13_c k45_18_c k45_19_c k45_19_0 k45_19_1 k45_19_2 k45_19_3 k45_20_c k45_21_c k45_23_c k45_24_c k45_24_0 k45_24_1 k45_24_2 k45_24_3 k45_24_4 k45_24_5 k45_24_6 k45_24_7 k45_24_8 k45_24_9 k45_24_10 k45_24_11 k45_24_12 k45_24_13 k45_24_14 k45_24_15 k45_24_16 k45_24_17 k45_24_18 k45_24_19 k45_24_20 k45_24_21 k45_24_22 k45_24_23 k45_24_24 k45_24_25 k45_24_26 k45_24_27 k45_24_28 k45_25_c k45_26_c k45_28_c k45_28_0 k45_28_1 k45_28_2 k45_28_3 k45_28_4 k45_28_5 k45_28_6 k45_29_c k45_29_0 k45_29_1 k45_29_2 k45_29_3 k45_27_c k45_30_c k45_30_0 k45_30_1 k45_30_2 k45_30_3 k45_30_4 k45_30_5 k45_30_6 k45_30_7 k45_30_8 k45_30_9 k45_30_10 k45_30_11 k45_30_12 k45_30_13 k45_30_14 k45_30_15 k45_30_16 k45_30_17 k45_30_18 k45_30_19 k45_30_20 k45_30_21 k45_31_c k45_32_c k45_34_c k45_34_0 k45_34_1 k45_34_2 k45_34_3 k45_34_4 k45_34_5 k45_34_6 k45_35_c k45_35_0 k45_35_1 k45_35_2 k45_35_3 k45_33_c k45_36_c k45_36_0 k45_36_1 k45_36_2 k45_36_3 k45_36_4 k45_36_5 k45_36_6 k45_36_7 k45_36_8 k45_36_9 k45_36_10 k45_36_11 k45_36_12 k45_36_13 k45_36_14 k45_36_15 k45_36_16 k45_36_17 k45_36_18 k45_36_19 k45_36_20 k45_36_21 k45_37_c k45_38_c k45_38_0 k45_38_1 k45_38_2 k45_38_3 k45_39_c k45_39_0 k45_39_1 k45_39_2 k45_39_3 k45_22_c k45_40_c k45_40_0 k45_40_1 k45_40_2 k45_40_3 k45_40_4 k45_40_5 k45_41_c k45_41_0 k45_41_1 k45_41_2 k45_41_3 k45_41_4 k45_41_5 k45_41_6 k45_41_7 k45_9_c k45_42_c k45_44_c k45_44_0 k45_44_1 k45_44_2 k45_44_3 k45_44_4 k45_44_5 k45_44_6 k45_44_7 k45_44_8 k45_44_9 k45_44_10 k45_45_c k45_46_c k45_46_0 k45_46_1 k45_46_2 k45_47_c k45_43_c k45_48_c k45_48_0 k45_48_1 k45_48_2 k45_49_c

/-- Appending, whoever has the right. -/
theorem app_acc {l : List (Int × Int)} {out : V} {nb : Nat} {g : Nat → Blk} {d : List Nat} {x1 x2 : Int} {X : Option Eff} (hX : builtinV Tryz.prog false (mkH nb g d).get nb .append [35, 35] [out, .vs (vcs [(x1, x2)]) 1 2 .tight] = X)
    (h : Acc l out nb g) (hl : l.length < 1000000) :
    ∃ e nb' g' d', X = some e ∧ e.apply (mkH nb g d) = mkH nb' g' d' ∧ nb ≤ nb' ∧ Acc (l ++ [(x1, x2)]) e.v nb' g' ∧ (∀ r, r < nb → (∀ n, g r ≠ .tok n) → g' r = g r) ∧ e.v.cells = [e.v] ∧ e.v.one = true := by
  rcases h with ⟨rfl, rfl⟩ | ⟨r, hr, rfl, hgr⟩
  · refine ⟨_, nb + 1, atB g nb (.tok 1), d, hX.symm.trans (app35_nil (x1, x2) _ _), new_mkB _ _ _ _, Nat.le_succ _, Or.inr ⟨nb, Nat.lt_succ_self _, by simp, by rw [atB_same]; rfl⟩, ?_, rfl, rfl⟩
    intro q h1 h2
    rw [atB_ne _ _ (by omega)]
  · refine ⟨_, nb, atB g r (.tok (l.length + 1)), r :: d, hX.symm.trans (app35_tok (x1, x2) l r _ _ ((get_mkH hr).trans hgr) hl), set_mkB _ _ _ _ _, Nat.le_refl _, Or.inr ⟨r, hr, by simp, by rw [atB_same]; simp⟩, ?_, rfl, rfl⟩
    intro q h1 h2
    rw [atB_ne _ _ (by rintro rfl; exact h2 _ hgr)]

/-- The greatest offset. -/
def mxs (m : Int) : List (Int × Int) → Int
  | [] => m
  | x :: l => mxs (mx m x.2) l

structure St45 (c1 c2 c : Int) (sa sb : V) (nb : Nat) (g : Nat → Blk) (acc : List (Int × Int)) (out : V) : Prop where
  n : 3 < nb
  g0 : g 0 = .row 0 [.int .i64 c1, sa]
  g1 : g 1 = .row 0 [.int .i64 c2, sb]
  g2 : g 2 = .row 0 [.int .i64 0, .nils]
  g3 : g 3 = .row 0 [.int .i64 c, out]
  acc : Acc acc out nb g

def Q45 (c1 c2 c : Int) (sa sb : V) (l : List (Int × Int)) (m : Int) (e : Ex) (f' : Nat → V) (nb' : Nat) (g' : Nat → Blk) : Prop :=
  e = .exit 0 ∧ f' 4 = .ptr 2 0 ∧ f' 5 = .ptr 3 0 ∧ f' 8 = .int .i64 m ∧ ∃ out', St45 c1 c2 c sa sb nb' g' l out'

set_option maxHeartbeats 4000000 in
theorem l45 {c1 c2 c : Int} {a b : List (Int × Int)} {sa sb : V} (hsa : IsVs a sa) (hsb : IsVs b sb) (hla : a.length ≤ 65544) (hlb : b.length ≤ 65544) : ∀ (m i k : Nat) (I K M : Int) (f : Nat → V) (nb : Nat) (g : Nat → Blk) (d : List Nat) (acc : List (Int × Int)) (out : V),
    (a.drop i).length + (b.drop k).length ≤ m → i ≤ a.length → k ≤ b.length → I = i → K = k → acc.length + m < 1000000 → f 2 = .ptr 0 0 → f 3 = .ptr 1 0 → f 4 = .ptr 2 0 → f 5 = .ptr 3 0 → f 6 = .int .i64 I → f 7 = .int .i64 K → f 8 = .int .i64 M → St45 c1 c2 c sa sb nb g acc out →
    AeEnds 138 (Q45 c1 c2 c sa sb (acc ++ mrg (a.drop i) (b.drop k)) (mxs M (mrg (a.drop i) (b.drop k)))) (Qc Tryz.prog hs ks ⟨45, none⟩ k45_10 (S 138 f [] (mkH nb g d))) := by
  intro m
  induction m with
  | zero =>
    intro i k I K M f nb g d acc out hm hi hk hI hK hln h2 h3 h4 h5 h6 h7 h8 hst
    have hi' : ¬ I < (a.length : Int) := by rw [List.length_drop, List.length_drop] at hm; omega
    have hk' : ¬ K < (b.length : Int) := by rw [List.length_drop, List.length_drop] at hm; omega
    have ea : a.drop i = [] := List.eq_nil_of_length_eq_zero (by omega)
    have eb : b.drop k = [] := List.eq_nil_of_length_eq_zero (by omega)
    obtain ⟨n, g0, g1, g2, g3, hacc⟩ := id hst
    rw [k45_10_l, ea, eb]
    simp (disch := first | decide | omega) [h2, h3, h6, h7, g0, g1, ld35, hsa.len, hsb.len, hi', hk']
    refine AeEnds.mk ⟨rfl, by simp [at1_if, h4], by simp [at1_if, h5], by simp [at1_if, h8, mrg, mxs], out, by simpa [mrg] using hst⟩
  | succ m ih =>
    intro i k I K M f nb g d acc out hm hi hk hI hK hln h2 h3 h4 h5 h6 h7 h8 hst
    obtain ⟨n, g0, g1, g2, g3, hacc⟩ := id hst
    have n0 : nb ≠ 0 := by omega
    have n1 : nb ≠ 1 := by omega
    have n2 : nb ≠ 2 := by omega
    have n3 : nb ≠ 3 := by omega
    have m0 : 0 ≠ nb := by omega
    have m1 : 1 ≠ nb := by omega
    have m2 : 2 ≠ nb := by omega
    have m3 : 3 ≠ nb := by omega
    have hd0 : ∀ (t : Int × Int) (l : List (Int × Int)), loadV Tryz.prog 3 (vcs (t :: l)) = some (.int .i64 t.1) := fun t l => by rw [ld3]; rfl
    have hd1 : ∀ (t : Int × Int) (l : List (Int × Int)), loadV Tryz.prog 3 (.int .i64 t.2 :: vcs l) = some (.int .i64 t.2) := fun t l => by rw [ld3]; rfl
    have l1 : ∀ (a b : Int) (n : Nat), litS Tryz.prog false 35 1 [(0, .agg [.int .i64 a, .int .i64 b])] n = some { v := .vs (vcs [(a, b)]) 1 2 .tight } := lit35
    have fin : ∀ (x : Int × Int) (i' k' : Nat) (I' K' : Int) (f' : Nat → V) (G : Nat → Blk) (D : List Nat), mrg (a.drop i) (b.drop k) = x :: mrg (a.drop i') (b.drop k') → (a.drop i').length + (b.drop k').length ≤ m → i' ≤ a.length → k' ≤ b.length → I' = i' → K' = k' →
        f' 2 = .ptr 0 0 → f' 3 = .ptr 1 0 → f' 4 = .ptr 2 0 → f' 5 = .ptr 3 0 → f' 6 = .int .i64 I' → f' 7 = .int .i64 K' → f' 8 = .int .i64 (mx M x.2) → St45 c1 c2 c sa sb (nb + 1) G acc out →
        AeEnds 138 (Q45 c1 c2 c sa sb (acc ++ mrg (a.drop i) (b.drop k)) (mxs M (mrg (a.drop i) (b.drop k)))) (thenV (blockV 1 (stepV (S 138 f' [] (mkH (nb + 1) G D)) (some 124) (builtinV Tryz.prog false (mkH (nb + 1) G D).get (nb + 1) .append [35, 35] [out, .vs (vcs [(x.1, x.2)]) 1 2 .tight]) (Qo Tryz.prog hs ks k45_41 5 ⟨45, none⟩))) (Qc Tryz.prog hs ks ⟨45, none⟩ k45_10)) := by
      intro x i' k' I' K' f' G D hmr hm' hi' hk' hI' hK' e2 e3 e4 e5 e6 e7 e8 hst'
      obtain ⟨n', G0, G1, G2, G3, hacc'⟩ := hst'
      obtain ⟨e, nb', g', d', hX, hap, hn, ha, hk'', hc, ho⟩ := app_acc (d := D) rfl hacc' (x1 := x.1) (x2 := x.2) (by omega)
      have r0 : g' 0 = _ := (hk'' 0 (by omega) (by rw [G0]; intro n; simp)).trans G0
      have r1 : g' 1 = _ := (hk'' 1 (by omega) (by rw [G1]; intro n; simp)).trans G1
      have r2 : g' 2 = _ := (hk'' 2 (by omega) (by rw [G2]; intro n; simp)).trans G2
      have r3 : g' 3 = _ := (hk'' 3 (by omega) (by rw [G3]; intro n; simp)).trans G3
      rw [hX]
      simp (disch := first | decide | omega) [hap, e5, r3, sz35, hc, ho]
      refine (ih i' k' I' K' (mx M x.2) _ nb' _ _ (acc ++ [x]) e.v hm' hi' hk' hI' hK' (by rw [List.length_append]; simp only [List.length_cons, List.length_nil]; omega) ?_ ?_ ?_ ?_ ?_ ?_ ?_ ⟨by omega, by rw [atB_ne _ _ (by decide)]; exact r0, by rw [atB_ne _ _ (by decide)]; exact r1, by rw [atB_ne _ _ (by decide)]; exact r2, atB_same _ _ _, ha.row r3⟩).weak ?_
      iterate 7 simp [at1_if, e2, e3, e4, e5, e6, e7, e8]
      rw [hmr, show acc ++ x :: mrg (a.drop i') (b.drop k') = acc ++ [x] ++ mrg (a.drop i') (b.drop k') by simp]
      exact fun _ _ _ _ h => h
    rw [k45_10_l]
    by_cases hi' : i < a.length
    · have hiI : I < (a.length : Int) := by omega
      have hiI' : (I == (a.length : Int)) = false := beq_false_of_ne (by omega)
      obtain ⟨x, a', hx, hx'⟩ : ∃ x a', a.drop i = x :: a' ∧ a.drop (i + 1) = a' := ⟨_, _, List.drop_eq_getElem_cons hi', rfl⟩
      have hix := hsa.idx' hI hi'
      rw [hx] at hix
      by_cases hk' : k < b.length
      · have hkK : K < (b.length : Int) := by omega
        have hkK' : (K == (b.length : Int)) = false := beq_false_of_ne (by omega)
        obtain ⟨y, b', hy, hy'⟩ : ∃ x b', b.drop k = x :: b' ∧ b.drop (k + 1) = b' := ⟨_, _, List.drop_eq_getElem_cons hk', rfl⟩
        have hiy := hsb.idx' hK hk'
        rw [hy] at hiy
        by_cases hxy : x.1 < y.1
        · simp (disch := first | decide | omega) [h2, h3, h6, h7, h8, g0, g1, g2, g3, bd74, bd74_01, sz74, sz35, ld35, ld3, hsa.len, hsb.len, hiI, hiI', hkK, hkK', hix, hiy, hxy, vcs_ld, ld74_2, hd0, hd1, vcs_add1, h4, h5, l1, wrap_i64]
          refine fin x (i + 1) k (I + 1) K _ _ _ (by rw [hx, hy, hx', mrg, if_pos hxy]) (by simp only [hx, hx', hy, hy', List.length_cons] at hm ⊢; omega) (by omega) (by omega) (by omega) (by omega) ?_ ?_ ?_ ?_ ?_ ?_ ?_ ⟨by omega, by simp (disch := omega) [atB_ne, g0], by simp (disch := omega) [atB_ne, g1], by simp (disch := omega) [atB_ne, g2], by simp (disch := omega) [atB_ne, g3], ((hacc.new (Nat.le_succ nb)).row (atB_same _ _ _)).row (atB_same _ _ _)⟩
          all_goals simp [at1_if, h2, h3, h4, h5, h6, h7, h8, mx]
        · by_cases hyx : y.1 < x.1
          · simp (disch := first | decide | omega) [h2, h3, h6, h7, h8, g0, g1, g2, g3, bd74, bd74_01, sz74, sz35, ld35, ld3, hsa.len, hsb.len, hiI, hiI', hkK, hkK', hix, hiy, hxy, hyx, vcs_ld, ld74_2, hd0, hd1, vcs_add1, h4, h5, l1, wrap_i64]
            refine fin y i (k + 1) I (K + 1) _ _ _ (by rw [hx, hy, hy', mrg, if_neg hxy, if_pos hyx]) (by simp only [hx, hx', hy, hy', List.length_cons] at hm ⊢; omega) (by omega) (by omega) (by omega) (by omega) ?_ ?_ ?_ ?_ ?_ ?_ ?_ ⟨by omega, by simp (disch := omega) [atB_ne, g0], by simp (disch := omega) [atB_ne, g1], by simp (disch := omega) [atB_ne, g2], by simp (disch := omega) [atB_ne, g3], ((hacc.new (Nat.le_succ nb)).row (atB_same _ _ _)).row (atB_same _ _ _)⟩
            all_goals simp [at1_if, h2, h3, h4, h5, h6, h7, h8, mx]
          · simp (disch := first | decide | omega) [h2, h3, h6, h7, h8, g0, g1, g2, g3, bd74, bd74_01, sz74, sz35, ld35, ld3, hsa.len, hsb.len, hiI, hiI', hkK, hkK', hix, hiy, hxy, hyx, vcs_ld, ld74_2, hd0, hd1, vcs_add1, h4, h5, l1, wrap_i64]
            refine fin (x.1, if x.2 < y.2 then y.2 else x.2) (i + 1) (k + 1) (I + 1) (K + 1) _ _ _ (by rw [hx, hy, hx', hy', mrg, if_neg hxy, if_neg hyx]) (by simp only [hx, hx', hy, hy', List.length_cons, List.length_nil] at hm ⊢; omega) (by omega) (by omega) (by omega) (by omega) ?_ ?_ ?_ ?_ ?_ ?_ ?_ ⟨by omega, by simp (disch := omega) [atB_ne, g0], by simp (disch := omega) [atB_ne, g1], by simp (disch := omega) [atB_ne, g2], by simp (disch := omega) [atB_ne, g3], ((hacc.new (Nat.le_succ nb)).row (atB_same _ _ _)).row (atB_same _ _ _)⟩
            all_goals simp [at1_if, h2, h3, h4, h5, h6, h7, h8, mx]
      · have hkK : ¬ K < (b.length : Int) := by omega
        have hkK' : (K == (b.length : Int)) = true := by rw [beq_iff_eq]; omega
        have hy : b.drop k = [] := by rw [List.drop_eq_nil_iff]; omega
        have hy' : b.drop k = [] := hy
        simp (disch := first | decide | omega) [h2, h3, h6, h7, h8, g0, g1, g2, g3, bd74, bd74_01, sz74, sz35, ld35, ld3, hsa.len, hsb.len, hiI, hiI', hkK, hkK', hix, vcs_ld, ld74_2, hd0, hd1, vcs_add1, h4, h5, l1, wrap_i64]
        refine fin x (i + 1) k (I + 1) K _ _ _ (by rw [hx, hy, hx', mrg_nil, mrg_nil]) (by simp only [hx, hx', hy, hy', List.length_cons] at hm ⊢; omega) (by omega) (by omega) (by omega) (by omega) ?_ ?_ ?_ ?_ ?_ ?_ ?_ ⟨by omega, by simp (disch := omega) [atB_ne, g0], by simp (disch := omega) [atB_ne, g1], by simp (disch := omega) [atB_ne, g2], by simp (disch := omega) [atB_ne, g3], ((hacc.new (Nat.le_succ nb)).row (atB_same _ _ _)).row (atB_same _ _ _)⟩
        all_goals simp [at1_if, h2, h3, h4, h5, h6, h7, h8, mx]
    · have hiI : ¬ I < (a.length : Int) := by omega
      have hiI' : (I == (a.length : Int)) = true := by rw [beq_iff_eq]; omega
      have hx : a.drop i = [] := by rw [List.drop_eq_nil_iff]; omega
      have hx' : a.drop i = [] := hx
      by_cases hk' : k < b.length
      · have hkK : K < (b.length : Int) := by omega
        have hkK' : (K == (b.length : Int)) = false := beq_false_of_ne (by omega)
        obtain ⟨y, b', hy, hy'⟩ : ∃ x b', b.drop k = x :: b' ∧ b.drop (k + 1) = b' := ⟨_, _, List.drop_eq_getElem_cons hk', rfl⟩
        have hiy := hsb.idx' hK hk'
        rw [hy] at hiy
        simp (disch := first | decide | omega) [h2, h3, h6, h7, h8, g0, g1, g2, g3, bd74, bd74_01, sz74, sz35, ld35, ld3, hsa.len, hsb.len, hiI, hiI', hkK, hkK', hiy, vcs_ld, ld74_2, hd0, hd1, vcs_add1, h4, h5, l1, wrap_i64]
        refine fin y i (k + 1) I (K + 1) _ _ _ (by rw [hx, hy, hy', mrg, mrg]) (by simp only [hx, hx', hy, hy', List.length_cons, List.length_nil] at hm ⊢; omega) (by omega) (by omega) (by omega) (by omega) ?_ ?_ ?_ ?_ ?_ ?_ ?_ ⟨by omega, by simp (disch := omega) [atB_ne, g0], by simp (disch := omega) [atB_ne, g1], by simp (disch := omega) [atB_ne, g2], by simp (disch := omega) [atB_ne, g3], ((hacc.new (Nat.le_succ nb)).row (atB_same _ _ _)).row (atB_same _ _ _)⟩
        all_goals simp [at1_if, h2, h3, h4, h5, h6, h7, h8, mx]
      · have hkK : ¬ K < (b.length : Int) := by omega
        have eb : b.drop k = [] := by rw [List.drop_eq_nil_iff]; omega
        rw [hx, eb]
        simp (disch := first | decide | omega) [h2, h3, h6, h7, g0, g1, ld35, hsa.len, hsb.len, hiI, hkK]
        refine AeEnds.mk ⟨rfl, by simp [at1_if, h4], by simp [at1_if, h5], by simp [at1_if, h8, mrg, mxs], out, by simpa [mrg] using hst⟩

theorem mxs_cov (c : Int) (hc : 0 ≤ c) : ∀ (l : List (Int × Int)) (m : Int), decide (c ≤ mxs m l) = (decide (c ≤ m) || cov c l)
  | [], m => by show decide (c ≤ m) = (decide (c ≤ m) || false); rw [Bool.or_false]
  | x :: l, m => by
    rw [mxs, mxs_cov c hc l (mx m x.2)]
    have : cov c (x :: l) = (decide (x.2 ≥ c) || cov c l) := rfl
    rw [this, ← Bool.or_assoc]
    congr 1
    unfold mx
    split <;> by_cases h1 : c ≤ m <;> by_cases h2 : c ≤ x.2 <;> simp [h1, h2] <;> omega

/-- Whether there is a variable that makes the constant superfluous. -/
theorem mxs_lim (c : Int) (hc : 0 ≤ c) (l : List (Int × Int)) (hv : ∀ x ∈ l, 0 ≤ x.2) : (if l.length > 0 ∧ c ≤ mxs 0 l then 0 else c) = lim c l := by
  unfold lim
  have h1 := mxs_cov c hc l 0
  cases l with
  | nil => simp [cov]
  | cons x l =>
    by_cases h0 : c ≤ 0
    · have : c = 0 := by omega
      subst this
      simp
    · have h2 : decide (c ≤ 0) = false := decide_eq_false h0
      rw [h2, Bool.false_or] at h1
      rw [← h1]
      simp

theorem f45 {c1 c2 : Int} {a b : List (Int × Int)} {sa sb : V} (h1 : Good c1 a) (h2 : Good c2 b) (ha : IsVs a sa) (hb : IsVs b sb) :
    ∃ s', IsVs (mrg a b) s' ∧ ∀ h, callS Tryz.prog hs ks 45 [lvl c1 sa, lvl c2 sb] h = some [(.ret (lvl (lim (mx c1 c2) (mrg a b)) s'), h)] := by
  have la := h1.len
  have lb := h2.len
  have lm := mrg_len a b
  have key : ∃ s' h1, (IsVs (mrg a b) s'.shut ∧ ∀ (h : H) (k : Nat), Ae.freeze h (k + 1) s' = some s'.shut) ∧ (EV Tryz.prog hs ks).call 45 [lvl c1 sa, lvl c2 sb] H.empty = some [(.ret (lvl (lim (mx c1 c2) (mrg a b)) s'), h1)] := by
    rw [k45_fun _ (by simp), empty_mkH]
    simp (disch := first | decide | omega) [lvl, ld37, ld3, ld35, bd37_0, sz37]
    generalize hF : at1 _ 8 (V.int IntKind.i64 0) = F
    have hc0 : 0 ≤ mx c1 c2 := by
      have := h1.c0
      have := h2.c0
      unfold mx; split <;> omega
    obtain ⟨e, f', nb', g', d', e1, rfl, e4, e5, e8, out', n, g0, g1, g2, g3, hacc⟩ := l45 (c1 := c1) (c2 := c2) (c := mx c1 c2) ha hb la lb (a.length + b.length) 0 0 0 0 0 F 4 (atB (atB (atB (atB (atB (fun x => Blk.gone) 0 (Blk.row 0 [V.int IntKind.i64 c1, sa])) 1 (Blk.row 0 [V.int IntKind.i64 c2, sb])) 2 (Blk.row 0 [V.int IntKind.i64 0, V.nils])) 3 (Blk.row 0 [V.int IntKind.i64 0, V.nils])) 3 (Blk.row 0 [V.int IntKind.i64 (if c1 < c2 then c2 else c1), V.nils])) [3] [] .nils
      (by simp) (by omega) (by omega) rfl rfl (by simp; omega) (by rw [← hF]; simp [at1_if]) (by rw [← hF]; simp [at1_if]) (by rw [← hF]; simp [at1_if]) (by rw [← hF]; simp [at1_if]) (by rw [← hF]; simp [at1_if]) (by rw [← hF]; simp [at1_if]) (by rw [← hF]; simp [at1_if])
      ⟨by decide, rfl, rfl, rfl, rfl, Or.inl ⟨rfl, rfl⟩⟩
    rw [List.drop_zero, List.drop_zero, List.nil_append] at hacc
    rw [List.drop_zero, List.drop_zero] at e8
    rw [e1]
    obtain ⟨q1, q2, q3⟩ := hacc.shut
    have hlm := mxs_lim (mx c1 c2) hc0 (mrg a b) fun x hx => ((h1.max h2).vars x hx).2.2.1
    have hlen : ∀ get n, builtinV Tryz.prog false get n .len [35] [out'] = some { v := .int .i64 ((mrg a b).length : Nat) } := by
      intro get n
      show lenV Tryz.prog get 35 out' = _
      unfold lenV
      rw [un35]
      rcases hacc with ⟨h, rfl⟩ | ⟨r, _, rfl, _⟩
      · rw [h]; rfl
      · rfl
    have hfrz : ∀ (h : H) (k : Nat), Ae.freeze h (k + 1) out' = some out'.shut := by
      intro h k
      rcases hacc with ⟨h, rfl⟩ | ⟨r, _, rfl, _⟩ <;> rfl
    refine ⟨out', ?_⟩
    have n2 : 2 < nb' := by omega
    obtain ⟨Ln, hLn⟩ : ∃ Ln : Int, Ln = ((mrg a b).length : Nat) := ⟨_, rfl⟩
    rw [← hLn] at hlen
    refine ⟨⟨q1, hfrz⟩, ?_⟩
    by_cases hb1 : 0 < Ln
    · by_cases hb2 : mx c1 c2 ≤ mxs 0 (mrg a b)
      · rw [if_pos ⟨by omega, hb2⟩] at hlm
        rw [← hlm]
        simp (disch := first | decide | omega) [e4, e5, e8, g2, g3, hlen, hb1, hb2, ld37, ld3, ld35, sz3, sz37, q3]
      · rw [if_neg (by intro h; exact hb2 h.2)] at hlm
        rw [← hlm]
        simp (disch := first | decide | omega) [e4, e5, e8, g2, g3, hlen, hb1, hb2, ld37, ld3, ld35, sz3, sz37, q3]
    · rw [if_neg (by intro h; have := h.1; omega)] at hlm
      by_cases hb2 : mx c1 c2 ≤ mxs 0 (mrg a b)
      · rw [← hlm]
        simp (disch := first | decide | omega) [e4, e5, e8, g2, g3, hlen, hb1, hb2, ld37, ld3, ld35, sz3, sz37, q3]
      · rw [← hlm]
        simp (disch := first | decide | omega) [e4, e5, e8, g2, g3, hlen, hb1, hb2, ld37, ld3, ld35, sz3, sz37, q3]
  obtain ⟨s', h1, ⟨hs', hf⟩, hc⟩ := key
  refine ⟨s'.shut, hs', fun h => callS_of (args' := [lvl c1 sa, lvl c2 sb]) (by show [V.agg [_, sa.shut], V.agg [_, sb.shut]] = _; rw [ha.shut, hb.shut]; rfl) (by show (V.pure sa && true && (V.pure sb && true && true)) = true; rw [ha.pure, hb.pure]; rfl) rfl rfl hc (fun n => ?_) h⟩
  have e1 : Ae.freeze h1 60 (lvl (lim (mx c1 c2) (mrg a b)) s') = some (lvl (lim (mx c1 c2) (mrg a b)) s'.shut) := by
    show (mapO (Ae.freeze h1 (58 + 1)) [.int .i64 _, s']).map V.agg = _
    simp only [mapO, frz_int, hf, Option.map_some]; rfl
  show (match Ae.freeze h1 60 (lvl (lim (mx c1 c2) (mrg a b)) s') with | some v => some (Eff.mk v [] [] [] false) | none => none) = _
  rw [e1]

theorem f20 {c1 c2 : Int} {a b : List (Int × Int)} {sa sb : V} (h1 : Good c1 a) (h2 : Good c2 b) (ha : IsVs a sa) (hb : IsVs b sb) :
    ∃ s', IsVs (mrg a b) s' ∧ ∀ h, callS Tryz.prog hs ks 20 [lvl c1 sa, lvl c2 sb] h = some [(.ret (.tup [lvl (lim (mx c1 c2) (mrg a b)) s', .int .i64 0]), h)] := by
  obtain ⟨s', hs', hj⟩ := f45 h1 h2 ha hb
  have key : ∃ h1, (EV Tryz.prog hs ks).call 20 [lvl c1 sa, lvl c2 sb] H.empty = some [(.ret (.tup [lvl (lim (mx c1 c2) (mrg a b)) s', .int .i64 0]), h1)] := by
    rw [k20_fun _ (by simp), empty_mkH]
    have v1 : ∀ h, callS Tryz.prog hs ks 44 [.agg [.int .i64 c1, sa]] h = some [(.ret (.bool true), h)] := f44 h1 ha
    have v2 : ∀ h, callS Tryz.prog hs ks 44 [.agg [.int .i64 c2, sb]] h = some [(.ret (.bool true), h)] := f44 h2 hb
    have v3 : ∀ h, callS Tryz.prog hs ks 45 [.agg [.int .i64 c1, sa], .agg [.int .i64 c2, sb]] h = some [(.ret (.agg [.int .i64 (lim (mx c1 c2) (mrg a b)), s']), h)] := hj
    simp (disch := first | decide | omega) [lvl, v1, v2, v3, ld37, ld3, ld35, bd37, sz37, hs'.one]
  obtain ⟨h1, hc⟩ := key
  exact ⟨s', hs', fun h => callS_of (args' := [lvl c1 sa, lvl c2 sb]) (by show [V.agg [_, sa.shut], V.agg [_, sb.shut]] = _; rw [ha.shut, hb.shut]; rfl) (by show (V.pure sa && true && (V.pure sb && true && true)) = true; rw [ha.pure, hb.pure]; rfl) rfl rfl hc (fun n => ret_lvl hs' _ _ n h1) h⟩
end Go.Proofs.YtelobjfgghlkfaaGreat.El
