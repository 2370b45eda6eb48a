/- Levels: atoms. -/
import Derived.Test.YtelobjfgghlkfaaGreatD5
set_option linter.all false
noncomputable section
set_option linter.unusedSimpArgs false
set_option linter.unusedVariables false
namespace Go.Proofs.YtelobjfgghlkfaaGreat.El
open Go Go.Ae
attribute [local simp] setF thenV_normal thenV_ret thenV_exit blockV_normal blockV_ret blockV_exit stepV_v stepV_some stepV_drop skipS_S thenC_ret S_get S_h S_dfs apply_v apply_wr apply_nw apply_wn at1_if atB_same atB_ne n_mkH get_mkH set_mkB new_mkB wantB_bool wantB_undef condV_true condV_false valS binV_int binV_str intOp_add intOp_sub intOp_eql intOp_neq intOp_lss intOp_leq intOp_gtr intOp_geq strOp_eql strOp_neq xPick_bool xUn_not ext_0 ext_1 ext_2 ext_3 addrAdd_ptr addrAdd_iptr xNilCheck_ptr build_C List.map cells_agg cells_int cells_bool cells_str cells_ptr cells_nils cells_vs xStore xLoad V.ones one_int one_bool one_str one_ptr one_nils one_vs splice resultVs_cons resultVs_nil resultV_tmp resultV_cell cellV_ptr resV_one resV_two resV_nil callOf_func callOf_yield callX_func thenC_noret stepD_vS stepD_rdS stepD_wrS stepD_nwS okD_nil okD_rd okD_wr okD_ww okD_rw okD_bef max2 eqBoolTT cond_true cond_false List.nil_append List.cons_append
attribute [local simp] k7_ret k7_nrm k7_c k7_0_c k7_0_0 k7_0_1 k7_0_2 k7_0_3 k7_0_4 k7_0_5 k7_1_c k7_2_c k7_4_c k7_4_0 k7_4_1 k7_4_2 k7_5_c k7_6_c k7_8_c k7_8_0 k7_8_1 k7_8_2 k7_8_3 k7_8_4 k7_8_5 k7_9_c k7_10_c k7_10_0 k7_10_1 k7_10_2 k7_10_3 k7_10_4 k7_10_5 k7_10_6 k7_10_7 k7_10_8 k7_10_9 k7_10_10 k7_11_c k7_7_c k7_3_c k7_12_c k7_12_0 k7_12_1 k7_12_2 k7_12_3 k7_13_c k7_14_c k7_16_c k7_16_0 k7_16_1 k7_17_c k7_19_c k7_20_c k7_22_c k7_22_0 k7_22_1 k7_22_2 k7_22_3 k7_22_4 k7_22_5 k7_23_c k7_24_c k7_25_c k7_21_c k7_26_c k7_28_c k7_29_c k7_29_0 k7_29_1 k7_29_2 k7_29_3 k7_29_4 k7_29_5 k7_29_6 k7_29_7 k7_30_c k7_31_c k7_31_0 k7_31_1 k7_31_2 k7_31_3 k7_31_4 k7_31_5 k7_31_6 k7_31_7 k7_31_8 k7_31_9 k7_32_c k7_33_c k7_35_c k7_35_0 k7_35_1 k7_35_2 k7_35_3 k7_36_c k7_37_c k7_39_c k7_39_0 k7_39_1 k7_39_2 k7_39_3 k7_39_4 k7_40_c k7_41_c k7_44_c k7_45_c k7_47_c k7_47_0 k7_47_1 k7_47_2 k7_47_3 k7_47_4 k7_47_5 k7_47_6 k7_47_7 k7_47_8 k7_47_9 k7_47_10 k7_47_11 k7_48_c k7_49_c k7_50_c k7_46_c k7_51_c k7_51_0 k7_51_1 k7_51_2 k7_51_3 k7_42_c k7_52_c k7_54_c k7_54_0 k7_54_1 k7_54_2 k7_55_c k7_56_c k7_58_c k7_58_0 k7_58_1 k7_58_2 k7_58_3 k7_58_4 k7_58_5 k7_59_c k7_57_c k7_53_c k7_53_0 k7_53_1 k7_53_2 k7_53_3 k7_53_4 k7_53_5 k7_53_6 k7_53_7 k7_53_8 k7_53_9 k7_38_c k7_34_c k7_60_c k7_62_c k7_62_0 k7_62_1 k7_62_2 k7_63_c k7_64_c k7_66_c k7_66_0 k7_66_1 k7_66_2 k7_66_3 k7_66_4 k7_66_5 k7_67_c k7_65_c k7_61_c k7_61_0 k7_61_1 k7_61_2 k7_61_3 k7_61_4 k7_61_5 k7_61_6 k7_61_7 k7_27_c k7_27_0 k7_27_1 k7_27_2 k7_27_3 k7_15_c k7_68_c k7_68_0 k7_68_1 k7_68_2 k7_68_3 k7_68_4 k7_68_5 k7_69_c k15_ret k15_nrm k15_c k15_0_c k15_0_0 k15_0_1 k15_1_c k15_2_c k15_2_0 k15_2_1 k15_2_2 k15_2_3 k15_2_4 k15_2_5 k15_2_6 k15_2_7 k15_2_8 k15_2_9 k15_2_10 k15_2_11 k15_3_c k15_4_c k15_4_0 k15_4_1 k15_4_2 k15_4_3 k15_4_4 k15_4_5 k15_4_6 k15_4_7 k15_4_8 k15_4_9 k15_4_10 k15_5_c k15_6_c k15_6_0 k15_6_1 k15_6_2 k15_7_c k16_ret k16_nrm k16_c k16_0_c k16_0_0 k16_0_1 k16_0_2 k16_0_3 k16_1_c k16_2_c k16_2_0 k16_2_1 k16_3_c k16_4_c k16_4_0 k16_4_1 k16_5_c k16_6_c k16_8_c k16_8_0 k16_8_1 k16_8_2 k16_8_3 k16_9_c k16_10_c k16_10_0 k16_10_1 k16_10_2 k16_10_3 k16_10_4 k16_10_5 k16_10_6 k16_10_7 k16_10_8 k16_11_c k16_12_c k16_12_0 k16_12_1 k16_12_2 k16_12_3 k16_12_4 k16_13_c k16_14_c k16_17_c k16_18_c k16_20_c k16_20_0 k16_20_1 k16_20_2 k16_20_3 k16_20_4 k16_20_5 k16_20_6 k16_20_7 k16_20_8 k16_20_9 k16_20_10 k16_20_11 k16_21_c k16_22_c k16_23_c k16_19_c k16_24_c k16_24_0 k16_24_1 k16_24_2 k16_24_3 k16_15_c k16_25_c k16_27_c k16_27_0 k16_27_1 k16_27_2 k16_28_c k16_29_c k16_31_c k16_31_0 k16_31_1 k16_31_2 k16_31_3 k16_32_c k16_30_c k16_26_c k16_26_0 k16_26_1 k16_26_2 k16_26_3 k16_26_4 k16_26_5 k16_26_6 k16_26_7 k16_26_8 k16_26_9 k16_7_c k16_33_c k16_35_c k16_35_0 k16_35_1 k16_35_2 k16_36_c k16_37_c k16_39_c k16_39_0 k16_39_1 k16_39_2 k16_39_3 k16_40_c k16_38_c k16_34_c k16_41_c k16_41_0 k16_41_1 k16_41_2 k16_41_3 k16_42_c

/-- A slice that came in. -/
def IsIn (v : V) : Prop := v = .nils ∨ v = .ze ∨ ∃ cs n z, v = .vs cs n z .lock
section
variable {v : V}
theorem IsIn.one (h : IsIn v) : v.one = true := by rcases h with rfl | rfl | ⟨_, _, _, rfl⟩ <;> rfl
theorem IsIn.cells (h : IsIn v) : v.cells = [v] := by rcases h with rfl | rfl | ⟨_, _, _, rfl⟩ <;> rfl
theorem IsIn.pure (h : IsIn v) : v.pure = true := by rcases h with rfl | rfl | ⟨_, _, _, rfl⟩ <;> rfl
theorem IsIn.shut (h : IsIn v) : v.shut = v := by rcases h with rfl | rfl | ⟨_, _, _, rfl⟩ <;> rfl
theorem IsIn.frz (h : IsIn v) (hh : H) (k : Nat) : Ae.freeze hh (k + 1) v = some v := by rcases h with rfl | rfl | ⟨_, _, _, rfl⟩ <;> rfl
end

/-- Strings that came in. -/
structure IsSs (l : List ByteArray) (s : V) : Prop where
  is : (l = [] ∧ (s = .nils ∨ s = .ze)) ∨ s = .vs (l.map V.str) l.length 1 .lock
section
variable {l : List ByteArray} {s : V}
theorem IsSs.isIn (h : IsSs l s) : IsIn s := by
  rcases h.is with ⟨_, rfl | rfl⟩ | rfl
  · exact Or.inl rfl
  · exact Or.inr (Or.inl rfl)
  · exact Or.inr (Or.inr ⟨_, _, _, rfl⟩)
theorem IsSs.len (h : IsSs l s) (get : Nat → Blk) (n : Nat) : builtinV Tryz.prog false get n .len [22] [s] = some { v := .int .i64 (l.length : Nat) } := by
  show lenV Tryz.prog get 22 s = _
  unfold lenV
  rw [un22]
  rcases h.is with ⟨rfl, rfl | rfl⟩ | rfl <;> rfl
theorem IsSs.idx (h : IsSs l s) {i : Nat} {I : Int} (hI : I = i) (hi : i < l.length) : indexAddr Tryz.prog 22 s (.int .i64 I) = some (.iptr (.str l[i] :: (l.map V.str).drop (i + 1))) := by
  subst hI
  unfold indexAddr
  rw [un22]
  rcases h.is with ⟨rfl, _⟩ | rfl
  · cases hi
  · show (if (0 : Int) ≤ (i : Int) ∧ (i : Int) < (l.length : Nat) ∧ okT Tryz.prog 9 = true then some (V.iptr ((l.map V.str).drop ((i : Int).toNat * szOf Tryz.prog 9))) else none) = _
    rw [if_pos ⟨by omega, by omega, ok9⟩, sz9, Int.toNat_natCast, Nat.mul_one, List.drop_eq_getElem_cons (by simpa using hi)]
    simp
end

/-- Atoms. -/
def acs : List (ByteArray × Int) → List V
  | [] => []
  | a :: l => .str a.1 :: .int .i64 a.2 :: acs l
theorem acs_drop : ∀ (i : Nat) (l : List (ByteArray × Int)), (acs l).drop (i * 2) = acs (l.drop i)
  | 0, l => rfl
  | i + 1, [] => by simp [acs]
  | i + 1, x :: l => by
    rw [show (i + 1) * 2 = i * 2 + 1 + 1 by omega]
    show (acs l).drop (i * 2) = _
    rw [acs_drop i l]; rfl
structure IsAs (l : List (ByteArray × Int)) (s : V) : Prop where
  is : (l = [] ∧ (s = .nils ∨ s = .ze)) ∨ s = .vs (acs l) l.length 2 .lock
section
variable {l : List (ByteArray × Int)} {s : V}
theorem IsAs.isIn (h : IsAs l s) : IsIn s := by
  rcases h.is with ⟨_, rfl | rfl⟩ | rfl
  · exact Or.inl rfl
  · exact Or.inr (Or.inl rfl)
  · exact Or.inr (Or.inr ⟨_, _, _, rfl⟩)
theorem IsAs.len (h : IsAs l s) (get : Nat → Blk) (n : Nat) : builtinV Tryz.prog false get n .len [28] [s] = some { v := .int .i64 (l.length : Nat) } := by
  show lenV Tryz.prog get 28 s = _
  unfold lenV
  rw [un28]
  rcases h.is with ⟨rfl, rfl | rfl⟩ | rfl <;> rfl
theorem IsAs.idx (h : IsAs l s) {i : Nat} {I : Int} (hI : I = i) {a : ByteArray × Int} {l' : List (ByteArray × Int)} (hi : l.drop i = a :: l') : indexAddr Tryz.prog 28 s (.int .i64 I) = some (.iptr (.str a.1 :: .int .i64 a.2 :: acs l')) := by
  subst hI
  have hlt : i < l.length := by
    have := congrArg List.length hi
    rw [List.length_drop, List.length_cons] at this
    omega
  unfold indexAddr
  rw [un28]
  rcases h.is with ⟨rfl, _⟩ | rfl
  · cases hlt
  · show (if (0 : Int) ≤ (i : Int) ∧ (i : Int) < (l.length : Nat) ∧ okT Tryz.prog 34 = true then some (V.iptr ((acs l).drop ((i : Int).toNat * szOf Tryz.prog 34))) else none) = _
    rw [if_pos ⟨by omega, by omega, ok34⟩, sz34, Int.toNat_natCast, acs_drop, hi]
    rfl
end

/-- The last place of a name. -/
def srch (l : List ByteArray) (nm : ByteArray) : Nat → Int
  | 0 => -1
  | n + 1 => if (l.getD n default).data.toList == nm.data.toList then (n : Int) else srch l nm n

theorem srch_lt (l : List ByteArray) (nm : ByteArray) : ∀ n, -1 ≤ srch l nm n ∧ srch l nm n < n
  | 0 => by simp [srch]
  | n + 1 => by
    have := srch_lt l nm n
    unfold srch
    split <;> omega

theorem l16 {l : List ByteArray} {s : V} (hs' : IsSs l s) (hln : l.length < 9223372036854775808) {nm : ByteArray} {p : Int} {B : Nat} : ∀ (n : Nat) (N : Int) (f : Nat → V) (nb : Nat) (g : Nat → Blk) (d : List Nat), n ≤ l.length → N = n - 1 →
    f 0 = s → f 3 = .ptr B 0 → f 8 = .int .i64 N → B < nb → g B = .row 0 [.str nm, .int .i64 p] →
    AeStay 48 (mkH nb g d) (fun e f' => e = .exit 0 ∧ f' 8 = .int .i64 (srch l nm n) ∧ f' 3 = f 3 ∧ f' 4 = f 4 ∧ f' 6 = f 6 ∧ f' 7 = f 7) (Qc Tryz.prog hs ks ⟨16, none⟩ k16_16 (S 48 f [] (mkH nb g d))) := by
  intro n
  induction n with
  | zero =>
    intro N f nb g d hn hN h0 h3 h8 hnb hg
    have hN' : ¬ 0 ≤ N := by omega
    have hN2 : N = -1 := by omega
    rw [k16_16_l]
    simp (disch := first | decide | omega) [h0, h3, h8, hg, hN']
    exact AeStay.mk (by simp [at1_if, h0, h3, h8, srch, hN2])
  | succ n ih =>
    intro N f nb g d hn hN h0 h3 h8 hnb hg
    have hN' : 0 ≤ N := by omega
    have hNn : N = (n : Nat) := by omega
    have hi : n < l.length := by omega
    have hix := hs'.idx hNn hi
    have hgd : l.getD n default = l[n] := by rw [List.getD_eq_getElem?_getD, List.getElem?_eq_getElem hi]; rfl
    have hsr : srch l nm (n + 1) = if (l[n]).data.toList == nm.data.toList then (n : Int) else srch l nm n := by rw [srch, hgd]
    have hld : ∀ (a : ByteArray) (t : List V), loadV Tryz.prog 9 (.str a :: t) = some (.str a) := fun a t => by rw [ld9]; rfl
    rw [k16_16_l, hsr]
    generalize (l.map V.str).drop (n + 1) = tl at hix
    generalize l[n] = x at hix
    cases hc : (x.data.toList == nm.data.toList) with
    | true =>
      simp (disch := first | decide | omega) [h0, h3, h8, hg, hN', hix, hld, hc]
      exact AeStay.mk (by simp [at1_if, h0, h3, h8, hNn])
    | false =>
      simp (disch := first | decide | omega) [h0, h3, h8, hg, hN', hix, hld, hc, wrap_i64]
      refine (ih (N - 1) _ nb g d (by omega) (by omega) ?_ ?_ ?_ hnb hg).weak ?_
      · simp [at1_if, h0]
      · simp [at1_if, h3]
      · simp [at1_if]
      · rintro e f' ⟨h1, h2, h4⟩
        refine ⟨h1, h2, ?_⟩
        simpa [at1_if, h0, h3] using h4

theorem l7 {l : List ByteArray} {s : V} (hs' : IsSs l s) (hln : l.length < 9223372036854775808) {nm : ByteArray} {p : Int} {B : Nat} : ∀ (n : Nat) (N : Int) (f : Nat → V) (nb : Nat) (g : Nat → Blk) (d : List Nat), n ≤ l.length → N = n - 1 →
    f 0 = s → f 11 = .ptr B 0 → f 14 = .int .i64 N → B < nb → g B = .row 0 [.str nm, .int .i64 p] →
    AeStay 89 (mkH nb g d) (fun e f' => e = .exit 2 ∧ f' 14 = .int .i64 (srch l nm n) ∧ f' 0 = f 0 ∧ f' 4 = f 4 ∧ f' 5 = f 5 ∧ f' 6 = f 6 ∧ f' 7 = f 7 ∧ f' 8 = f 8 ∧ f' 9 = f 9 ∧ f' 10 = f 10 ∧ f' 11 = f 11 ∧ f' 12 = f 12 ∧ f' 13 = f 13) (Qc Tryz.prog hs ks ⟨7, none⟩ k7_43 (S 89 f [] (mkH nb g d))) := by
  intro n
  induction n with
  | zero =>
    intro N f nb g d hn hN h0 h3 h8 hnb hg
    have hN' : ¬ 0 ≤ N := by omega
    have hN2 : N = -1 := by omega
    rw [k7_43_l]
    simp (disch := first | decide | omega) [h0, h3, h8, hg, hN']
    exact AeStay.mk (by simp [at1_if, h0, h3, h8, srch, hN2])
  | succ n ih =>
    intro N f nb g d hn hN h0 h3 h8 hnb hg
    have hN' : 0 ≤ N := by omega
    have hNn : N = (n : Nat) := by omega
    have hi : n < l.length := by omega
    have hix := hs'.idx hNn hi
    have hgd : l.getD n default = l[n] := by rw [List.getD_eq_getElem?_getD, List.getElem?_eq_getElem hi]; rfl
    have hsr : srch l nm (n + 1) = if (l[n]).data.toList == nm.data.toList then (n : Int) else srch l nm n := by rw [srch, hgd]
    have hld : ∀ (a : ByteArray) (t : List V), loadV Tryz.prog 9 (.str a :: t) = some (.str a) := fun a t => by rw [ld9]; rfl
    rw [k7_43_l, hsr]
    generalize (l.map V.str).drop (n + 1) = tl at hix
    generalize l[n] = x at hix
    cases hc : (x.data.toList == nm.data.toList) with
    | true =>
      simp (disch := first | decide | omega) [h0, h3, h8, hg, hN', hix, hld, hc]
      exact AeStay.mk (by simp [at1_if, h0, h3, h8, hNn])
    | false =>
      simp (disch := first | decide | omega) [h0, h3, h8, hg, hN', hix, hld, hc, wrap_i64]
      refine (ih (N - 1) _ nb g d (by omega) (by omega) ?_ ?_ ?_ hnb hg).weak ?_
      · simp [at1_if, h0]
      · simp [at1_if, h3]
      · simp [at1_if]
      · rintro e f' ⟨h1, h2, h4⟩
        refine ⟨h1, h2, ?_⟩
        simpa [at1_if, h0, h3] using h4


/-- What an atom comes to: an error, or a constant and variables. -/
def atomR (ls : List ByteArray) (nm : ByteArray) (p : Int) : Int × Int × List (Int × Int) :=
  if nm.data.toList == [] then (if 100 < p then (15, 0, []) else (0, p, []))
  else if srch ls nm ls.length < 0 then (24, 0, [])
  else if 7 < srch ls nm ls.length ∨ 100 < p then (15, 0, [])
  else (0, 0, [(srch ls nm ls.length, p)])

theorem f16 {ls : List ByteArray} {s : V} (hs' : IsSs ls s) (hln : ls.length < 9223372036854775808) (nm : ByteArray) {p : Int} (hp : 0 ≤ p) :
    ∃ s', IsVs (atomR ls nm p).2.2 s' ∧ ∀ h, callS Tryz.prog hs ks 16 [s, .agg [.str nm, .int .i64 p]] h = some [(.ret (.tup [lvl (atomR ls nm p).2.1 s', .int .i64 (atomR ls nm p).1]), h)] := by
  have hld : ∀ (a : ByteArray) (t : List V), loadV Tryz.prog 9 (.str a :: t) = some (.str a) := fun a t => by rw [ld9]; rfl
  have key : ∃ s', IsVs (atomR ls nm p).2.2 s' ∧ ∃ h1, (EV Tryz.prog hs ks).call 16 [s, .agg [.str nm, .int .i64 p]] H.empty = some [(.ret (.tup [lvl (atomR ls nm p).2.1 s', .int .i64 (atomR ls nm p).1]), h1)] := by
    rw [k16_fun _ (by simp), empty_mkH]
    have hp0 : ¬ p < 0 := by omega
    cases hc : (nm.data.toList == []) with
    | true =>
      by_cases hp1 : 100 < p
      · have e : atomR ls nm p = (15, 0, []) := by unfold atomR; rw [hc]; simp [hp1]
        rw [e]
        refine ⟨.nils, IsVs.nil, ?_⟩
        simp (disch := first | decide | omega) [hld, hc, ld3, ld37, sz37, f38, ofV, hp0, hp1, lvl, bd37]
      · have e : atomR ls nm p = (0, p, []) := by unfold atomR; rw [hc]; simp [hp1]
        rw [e]
        refine ⟨.nils, IsVs.nil, ?_⟩
        simp (disch := first | decide | omega) [hld, hc, ld3, ld37, sz37, f38, ofV, hp0, hp1, lvl, bd37]
    | false =>
      simp (disch := first | decide | omega) [hld, hc, ld3, ld37, sz37, hs'.len, wrap_i64]
      generalize hF : at1 _ 8 (V.int IntKind.i64 _) = F
      generalize hG : atB (atB (atB _ 0 _) 1 _) 2 _ = G
      obtain ⟨e, f', h1, rfl, h8, h3, h4, h6, h7⟩ := l16 hs' hln (nm := nm) (p := p) (B := 0) ls.length ((ls.length : Nat) - 1) F 3 G [] (Nat.le_refl _) rfl (by rw [← hF]; simp [at1_if]) (by rw [← hF]; simp [at1_if]) (by rw [← hF]; simp [at1_if]) (by decide) (by rw [← hG]; rfl)
      rw [h1]
      have F3 : F 3 = .ptr 0 0 := by rw [← hF]; simp [at1_if]
      have F4 : F 4 = .ptr 1 0 := by rw [← hF]; simp [at1_if]
      have F6 : F 6 = .ptr 2 0 := by rw [← hF]; simp [at1_if]
      have G0 : G 0 = .row 0 [.str nm, .int .i64 p] := by rw [← hG]; rfl
      have G1 : G 1 = .row 0 [.int .i64 0, .nils] := by rw [← hG]; rfl
      have G2 : G 2 = .row 0 [.int .i64 0, .nils] := by rw [← hG]; rfl
      have hsl := srch_lt ls nm ls.length
      generalize hn : srch ls nm ls.length = n at *
      by_cases hn0 : n < 0
      · have e : atomR ls nm p = (24, 0, []) := by unfold atomR; rw [hc, hn]; simp [hn0]
        rw [e]
        refine ⟨.nils, IsVs.nil, ?_⟩
        simp (disch := first | decide | omega) [h3, h4, h6, h7, h8, F3, F4, F6, G0, G1, G2, ld3, ld37, sz37, hn0, lvl, bd37]
      · by_cases hr : 7 < n ∨ 100 < p
        · have e : atomR ls nm p = (15, 0, []) := by unfold atomR; rw [hc, hn, if_neg (by simp), if_neg hn0, if_pos hr]
          rw [e]
          refine ⟨.nils, IsVs.nil, ?_⟩
          by_cases h7n : 7 < n
          · have hv : ∀ h, callS Tryz.prog hs ks 39 [.int .i64 n, .int .i64 p] h = some [(.ret (.tup [.agg [.int .i64 0, .nils], .int .i64 2]), h)] := fun h => (f39 n p h).trans (by unfold varV; rw [if_pos (Or.inr (Or.inl h7n))]; rfl)
            simp (disch := first | decide | omega) [h3, h4, h6, h7, h8, F3, F4, F6, G0, G1, G2, ld3, ld37, sz37, hn0, hv, lvl, bd37]
          · have hv : ∀ h, callS Tryz.prog hs ks 39 [.int .i64 n, .int .i64 p] h = some [(.ret (.tup [.agg [.int .i64 0, .nils], .int .i64 15]), h)] := fun h => (f39 n p h).trans (by unfold varV; rw [if_neg (by omega), if_pos (by omega)]; rfl)
            simp (disch := first | decide | omega) [h3, h4, h6, h7, h8, F3, F4, F6, G0, G1, G2, ld3, ld37, sz37, hn0, hv, lvl, bd37]
        · have e : atomR ls nm p = (0, 0, [(n, p)]) := by unfold atomR; rw [hc, hn, if_neg (by simp), if_neg hn0, if_neg hr]
          rw [e]
          refine ⟨.vs (vcs [(n, p)]) 1 2 .tight, IsVs.mk' _ (Or.inl rfl), ?_⟩
          have hv : ∀ h, callS Tryz.prog hs ks 39 [.int .i64 n, .int .i64 p] h = some [(.ret (.tup [.agg [.int .i64 0, .vs (vcs [(n, p)]) 1 2 .tight], .int .i64 0]), h)] := fun h => (f39 n p h).trans (by unfold varV; rw [if_neg (by omega), if_neg (by omega)]; rfl)
          simp (disch := first | decide | omega) [h3, h4, h6, h7, h8, F3, F4, F6, G0, G1, G2, ld3, ld37, sz37, hn0, hv, lvl, bd37]
  obtain ⟨s', hs2, h1, hc⟩ := key
  exact ⟨s', hs2, fun h => callS_of (args' := [s, .agg [.str nm, .int .i64 p]]) (by show [s.shut, V.agg _] = _; rw [hs'.isIn.shut]; rfl) (by show (V.pure s && (true && true)) = true; rw [hs'.isIn.pure]; rfl) rfl rfl hc (fun n => ret_lvl hs2 _ _ n h1) h⟩

/-- A store that came in. -/
def sto (m q b : V) (n : Int) : V := .agg [m, q, b, .int .i64 n]
theorem ld27_4 (a b c d : V) : loadV Tryz.prog 27 [a, b, c, d] = some (.agg [a, b, c, d]) := by rw [ld27]; rfl

theorem bd68 (a b c d : V) : buildC Tryz.prog 68 [(2, [a, b, c, d])] = some (.agg [.nils, .nils, .nils, .nils, .nils, .nils, .nils, .nils, a, b, c, d]) := by kernel_rfl

theorem f15 {m q b : V} {n : Int} {nb r : Nat} {g : Nat → Blk} {d : List Nat} (hr : r < nb) (hn0 : 0 ≤ n) (hn1 : n ≤ 60000) (hg : g r = .row 0 [.nils, .nils, .nils, .nils, .nils, .nils, .nils, .nils, m, q, b, .int .i64 n]) :
    ∃ nb' g' d', callS Tryz.prog hs ks 15 [.ptr r 0] (mkH nb g d) = some [(.ret (lvl 0 (.vs (vcs [(-1 - n, 0)]) 1 2 .tight)), mkH nb' g' d')] ∧ nb ≤ nb' ∧ g' r = .row 0 [.nils, .nils, .nils, .nils, .nils, .nils, .nils, .nils, m, q, b, .int .i64 (n + 1)] ∧ ∀ x, x < nb → x ≠ r → g' x = g x := by
  rw [callS_heap rfl, k15_fun _ (by simp)]
  have n0 : r ≠ nb := by omega
  have n1 : r ≠ nb + 1 := by omega
  have n2 : nb ≠ r := by omega
  have n3 : nb + 1 ≠ r := by omega
  have l1 : ∀ (a b : Int) (n : Nat), litS Tryz.prog false 35 1 [(0, .agg [.int .i64 a, .int .i64 b])] n = some { v := .vs (vcs [(a, b)]) 1 2 .tight } := lit35
  simp (disch := first | decide | omega) [hg, ld3, ld37, sz3, sz37, bd74_0, bd37_1, l1, wrap_i64, lvl]
  refine ⟨_, _, ⟨_, rfl⟩, by omega, ?_, ?_⟩
  · rw [atB_ne _ _ n0, atB_same]
  · intro x h1 h2
    rw [atB_ne _ _ (by omega), atB_ne _ _ h2, atB_ne _ _ (by omega), atB_ne _ _ (by omega), atB_ne _ _ (by omega)]
end Go.Proofs.YtelobjfgghlkfaaGreat.El

/- Levels: what Level returns. -/
set_option linter.unusedSimpArgs false
set_option linter.unusedVariables false
namespace Go.Proofs.YtelobjfgghlkfaaGreat.El
open Go Go.Ae
attribute [local simp] setF thenV_normal thenV_ret thenV_exit blockV_normal blockV_ret blockV_exit stepV_v stepV_some stepV_drop skipS_S thenC_ret S_get S_h S_dfs apply_v apply_wr apply_nw apply_wn at1_if atB_same atB_ne n_mkH get_mkH set_mkB new_mkB wantB_bool wantB_undef condV_true condV_false valS binV_int binV_str intOp_add intOp_sub intOp_eql intOp_neq intOp_lss intOp_leq intOp_gtr intOp_geq strOp_eql strOp_neq xPick_bool xUn_not ext_0 ext_1 ext_2 ext_3 addrAdd_ptr addrAdd_iptr xNilCheck_ptr build_C List.map cells_agg cells_int cells_bool cells_str cells_ptr cells_nils cells_vs xStore xLoad V.ones one_int one_bool one_str one_ptr one_nils one_vs splice resultVs_cons resultVs_nil resultV_tmp resultV_cell cellV_ptr resV_one resV_two resV_nil callOf_func callOf_yield callX_func thenC_noret stepD_vS stepD_rdS stepD_wrS stepD_nwS okD_nil okD_rd okD_wr okD_ww okD_rw okD_bef max2 eqBoolTT cond_true cond_false List.nil_append List.cons_append
attribute [local simp] k6_ret k6_nrm k6_c k6_0_c k6_0_0 k6_0_1 k6_0_2 k6_0_3 k6_0_4 k6_0_5 k6_1_c k6_2_c k6_4_c k6_4_0 k6_4_1 k6_4_2 k6_5_c k6_6_c k6_8_c k6_8_0 k6_8_1 k6_8_2 k6_8_3 k6_8_4 k6_9_c k6_10_c k6_10_0 k6_10_1 k6_10_2 k6_10_3 k6_10_4 k6_11_c k6_12_c k6_12_0 k6_12_1 k6_12_2 k6_12_3 k6_12_4 k6_12_5 k6_12_6 k6_12_7 k6_12_8 k6_13_c k6_7_c k6_3_c k6_14_c k6_14_0 k6_14_1 k6_15_c k6_16_c k6_18_c k6_18_0 k6_18_1 k6_18_2 k6_18_3 k6_18_4 k6_19_c k6_21_c k6_22_c k6_22_0 k6_22_1 k6_23_c k6_24_c k6_26_c k6_27_c k6_25_c k6_28_c k6_30_c k6_31_c k6_31_0 k6_31_1 k6_31_2 k6_31_3 k6_31_4 k6_32_c k6_33_c k6_33_0 k6_33_1 k6_33_2 k6_33_3 k6_33_4 k6_33_5 k6_33_6 k6_33_7 k6_33_8 k6_33_9 k6_34_c k6_35_c k6_37_c k6_37_0 k6_37_1 k6_37_2 k6_38_c k6_39_c k6_41_c k6_41_0 k6_41_1 k6_41_2 k6_41_3 k6_41_4 k6_41_5 k6_41_6 k6_42_c k6_40_c k6_36_c k6_36_0 k6_36_1 k6_36_2 k6_36_3 k6_36_4 k6_36_5 k6_36_6 k6_36_7 k6_29_c k6_29_0 k6_29_1 k6_29_2 k6_17_c k6_43_c k6_43_0 k6_43_1 k6_43_2 k6_43_3 k6_43_4 k6_43_5 k6_44_c

/-- What atoms come to: an error, or a constant and variables. -/
def levR (ls : List ByteArray) : List (ByteArray × Int) → Int → List (Int × Int) → Int × Int × List (Int × Int)
  | [], c, l => (0, c, l)
  | a :: av, c, l => if (atomR ls a.1 a.2).1 = 0 then levR ls av (lim (mx c (atomR ls a.1 a.2).2.1) (mrg l (atomR ls a.1 a.2).2.2)) (mrg l (atomR ls a.1 a.2).2.2) else ((atomR ls a.1 a.2).1, 0, [])

theorem Good.zero : Good 0 [] := ⟨by decide, by decide, by simp, List.Pairwise.nil, fun h => by cases h⟩

theorem atomR_good (ls : List ByteArray) (nm : ByteArray) {p : Int} (hp : 0 ≤ p) (h : (atomR ls nm p).1 = 0) : Good (atomR ls nm p).2.1 (atomR ls nm p).2.2 := by
  have hs := srch_lt ls nm ls.length
  unfold atomR at h ⊢
  split
  · rename_i h1
    rw [if_pos h1] at h
    split
    · rename_i h2
      rw [if_pos h2] at h
      exact absurd h (by decide)
    · rename_i h2
      exact ⟨hp, by show p ≤ 100; omega, by simp, List.Pairwise.nil, fun _ => rfl⟩
  · rename_i h1
    rw [if_neg h1] at h
    split
    · rename_i h2
      rw [if_pos h2] at h
      exact absurd h (by decide)
    · rename_i h2
      rw [if_neg h2] at h
      split
      · rename_i h3
        rw [if_pos h3] at h
        exact absurd h (by decide)
      · rename_i h3
        refine ⟨Int.le_refl 0, by show (0 : Int) ≤ 100; decide, ?_, List.pairwise_singleton _ _, fun h => by cases h⟩
        intro x hx
        obtain rfl := List.mem_singleton.1 hx
        simp only
        omega

theorem atomR_cases (ls : List ByteArray) (nm : ByteArray) (p : Int) : (atomR ls nm p).1 = 0 ∨ (atomR ls nm p).1 = 15 ∨ (atomR ls nm p).1 = 24 := by
  unfold atomR
  split
  · split <;> simp
  · split
    · simp
    · split <;> simp

theorem levR_cases (ls : List ByteArray) : ∀ (av : List (ByteArray × Int)) (c : Int) (l : List (Int × Int)), (levR ls av c l).1 = 0 ∨ (levR ls av c l).1 = 15 ∨ (levR ls av c l).1 = 24
  | [], _, _ => Or.inl rfl
  | a :: av, c, l => by
    unfold levR
    split
    · exact levR_cases ls av _ _
    · exact atomR_cases ls a.1 a.2

theorem levR_good (ls : List ByteArray) : ∀ (av : List (ByteArray × Int)) (c : Int) (l : List (Int × Int)), (∀ a ∈ av, 0 ≤ a.2) → Good c l → (levR ls av c l).1 = 0 → Good (levR ls av c l).2.1 (levR ls av c l).2.2
  | [], _, _, _, h, _ => h
  | a :: av, c, l, ha, h, he => by
    unfold levR at he ⊢
    split
    · rename_i h0
      rw [if_pos h0] at he
      exact levR_good ls av _ _ (fun x hx => ha x (List.mem_cons_of_mem _ hx)) (h.max (atomR_good ls a.1 (ha a (List.mem_cons_self ..)) h0)) he
    · rename_i h0
      rw [if_neg h0] at he
      exact absurd he h0

structure St6 (m q b : V) (n : Int) (c : Int) (l : List (Int × Int)) (nb : Nat) (g : Nat → Blk) : Prop where
  nb : 4 < nb
  g0 : g 0 = .row 0 [m, q, b, .int .i64 n]
  g2 : g 2 = .row 0 [.nils, .nils, .nils, .int .i64 0]
  g3 : g 3 = .row 0 [.int .i64 0, .nils]
  g4 : ∃ s, IsVs l s ∧ g 4 = .row 0 [.int .i64 c, s]

/-- What holds behind the loop. -/
def Q6 (m q b : V) (n : Int) (r : Int × Int × List (Int × Int)) (e : Ex) (f' : Nat → V) (nb' : Nat) (g' : Nat → Blk) : Prop :=
  f' 4 = .ptr 0 0 ∧ f' 6 = .ptr 2 0 ∧ f' 7 = .ptr 3 0 ∧ f' 11 = .ptr 4 0 ∧
    ((r.1 = 0 ∧ e = .exit 0 ∧ St6 m q b n r.2.1 r.2.2 nb' g') ∨
     (r.1 ≠ 0 ∧ e = .ret ∧ f' 8 = .int .i64 r.1 ∧ 4 < nb' ∧ g' 2 = .row 0 [.nils, .nils, .nils, .int .i64 0] ∧ g' 3 = .row 0 [.int .i64 0, .nils]))

set_option maxHeartbeats 4000000 in
theorem l6 {ls : List ByteArray} {s : V} (hs' : IsSs ls s) (hln : ls.length < 9223372036854775808) {av : List (ByteArray × Int)} {sa : V} (hsa : IsAs av sa) (hal : av.length ≤ 10) (hp : ∀ a ∈ av, 0 ≤ a.2) {m q b : V} (hm : IsIn m) (hq : IsIn q) (hb : IsIn b) {n : Int} :
    ∀ (k i : Nat) (I : Int) (f : Nat → V) (nb : Nat) (g : Nat → Blk) (d : List Nat) (c : Int) (l : List (Int × Int)), av.length - i = k → i ≤ av.length → I = i → f 0 = s → f 4 = .ptr 0 0 → f 6 = .ptr 2 0 → f 7 = .ptr 3 0 → f 11 = .ptr 4 0 → f 29 = sa → f 30 = .int .i64 (av.length : Nat) → f 31 = .int .i64 I → Good c l → St6 m q b n c l nb g →
    AeEnds 55 (Q6 m q b n (levR ls (av.drop i) c l)) (Qc Tryz.prog hs ks ⟨6, none⟩ k6_20 (S 55 f [] (mkH nb g d))) := by
  intro k
  induction k with
  | zero =>
    intro i I f nb g d c l hk hi hI h0 h4 h6 h7 h11 h29 h30 h31 hg hst
    have hI' : ¬ I < (av.length : Nat) := by omega
    have hd : av.drop i = [] := by rw [List.drop_eq_nil_iff]; omega
    rw [k6_20_l, hd]
    simp (disch := first | decide | omega) [h29, h30, h31, hI']
    exact AeEnds.mk ⟨by simp [at1_if, h4], by simp [at1_if, h6], by simp [at1_if, h7], by simp [at1_if, h11], Or.inl ⟨rfl, rfl, hst⟩⟩
  | succ k ih =>
    intro i I f nb g d c l hk hi hI h0 h4 h6 h7 h11 h29 h30 h31 hg hst
    have hi' : i < av.length := by omega
    have hI' : I < (av.length : Nat) := by omega
    obtain ⟨a, av', hd, hd'⟩ : ∃ a av', av.drop i = a :: av' ∧ av.drop (i + 1) = av' := ⟨_, _, List.drop_eq_getElem_cons hi', rfl⟩
    have hap : 0 ≤ a.2 := hp a (List.mem_of_mem_drop (i := i) (by rw [hd]; exact List.mem_cons_self ..))
    obtain ⟨hnb, g0, g2, g3, s1, hs1, g4⟩ := id hst
    have hix := hsa.idx hI hd
    have hld : ∀ (x y : V) (t : List V), loadV Tryz.prog 34 (x :: y :: t) = some (.agg [x, y]) := fun x y t => by rw [ld34]; simp
    have sz34' : szOf Tryz.prog 34 = 2 := sz34
    obtain ⟨s2, hs2, hat⟩ := f16 hs' hln a.1 hap
    have hat' : ∀ h, callS Tryz.prog hs ks 16 [s, .agg [.str a.1, .int .i64 a.2]] h = some [(.ret (.tup [.agg [.int .i64 (atomR ls a.1 a.2).2.1, s2], .int .i64 (atomR ls a.1 a.2).1]), h)] := hat
    have z0 : nb ≠ 0 := by omega
    rw [k6_20_l, hd]
    unfold levR
    by_cases he : (atomR ls a.1 a.2).1 = 0
    · have hg2 := atomR_good ls a.1 hap he
      obtain ⟨s3, hs3, hmx⟩ := f17 hg hg2 hs1 hs2
      have hmx' : ∀ h, callS Tryz.prog hs ks 17 [.agg [.int .i64 c, s1], .agg [.int .i64 (atomR ls a.1 a.2).2.1, s2]] h = some [(.ret (.tup [.agg [.int .i64 (lim (mx c (atomR ls a.1 a.2).2.1) (mrg l (atomR ls a.1 a.2).2.2)), s3], .int .i64 0]), h)] := hmx
      rw [he] at hat'
      rw [if_pos he]
      simp (disch := first | decide | omega) [h0, h4, h6, h7, h11, h29, h30, h31, hI', hix, hld, sz34', hat', hmx', sz37, ld37, hs2.one, hs3.one, g4, wrap_i64]
      rw [← hd']
      refine ih (i + 1) (I + 1) _ _ _ _ _ _ (by omega) (by omega) (by omega) ?_ ?_ ?_ ?_ ?_ ?_ ?_ ?_ (hg.max hg2) ⟨by omega, ?_, ?_, ?_, s3, hs3, ?_⟩
      iterate 8 simp [at1_if, h0, h4, h6, h7, h11, h29, h30]
      all_goals simp (disch := omega) [atB_ne, atB_same, g0, g2, g3]
    · rw [if_neg he]
      have he' : ((atomR ls a.1 a.2).1 != 0) = true := bne_iff_ne.2 he
      simp (disch := first | decide | omega) [h0, h4, h6, h7, h11, h29, h30, h31, hI', hix, hld, sz34', hat', sz37, sz27, ld37, hs2.one, g4, he, he', bd27, bd37, g2, g3, wrap_i64]
      refine AeEnds.mk ⟨by simp [at1_if, h4], by simp [at1_if, h6], by simp [at1_if, h7], by simp [at1_if, h11], Or.inr ⟨he, rfl, by simp [at1_if], by omega, ?_, ?_⟩⟩
      all_goals simp (disch := omega) [atB_ne, atB_same]

theorem sto_seal {m q b : V} (hm : IsIn m) (hq : IsIn q) (hb : IsIn b) (n : Int) : V.shut (sto m q b n) = sto m q b n := by
  show V.agg [m.shut, q.shut, b.shut, _] = _
  rw [hm.shut, hq.shut, hb.shut]; rfl
theorem sto_pure {m q b : V} (hm : IsIn m) (hq : IsIn q) (hb : IsIn b) (n : Int) : V.pure (sto m q b n) = true := by
  show (V.pure m && (V.pure q && (V.pure b && (true && true)))) = true
  rw [hm.pure, hq.pure, hb.pure]; rfl
theorem frz_sto {m q b : V} (hm : IsIn m) (hq : IsIn q) (hb : IsIn b) (n : Int) (h : H) (k : Nat) : Ae.freeze h (k + 2) (sto m q b n) = some (sto m q b n) := by
  show (mapO (Ae.freeze h (k + 1)) [m, q, b, .int .i64 n]).map V.agg = _
  simp only [mapO, frz_int, hm.frz, hq.frz, hb.frz, Option.map_some]; rfl
theorem ret_sto {m q b : V} (hm : IsIn m) (hq : IsIn q) (hb : IsIn b) {l : List (Int × Int)} {s : V} (hs' : IsVs l s) (k c e : Int) (n : Nat) (h : H) : retok n h (.tup [sto m q b k, lvl c s, .int .i64 e]) = some { v := .tup [sto m q b k, lvl c s, .int .i64 e] } := by
  have h1 : Ae.freeze h 60 (.tup [sto m q b k, lvl c s, .int .i64 e]) = some (.tup [sto m q b k, lvl c s, .int .i64 e]) := by
    show (mapO (Ae.freeze h (58 + 1)) [sto m q b k, lvl c s, .int .i64 e]).map V.tup = _
    simp only [mapO, frz_int, frz_lvl hs', frz_sto hm hq hb, Option.map_some]
  show (match Ae.freeze h 60 (.tup [sto m q b k, lvl c s, .int .i64 e]) with | some v => some (Eff.mk v [] [] [] false) | none => none) = _
  rw [h1]

/-- What Level returns: the store's slices, its levels; the level; the error. -/
def LevV (hole : Bool) (m q b : V) (n : Int) (r : Int × Int × List (Int × Int)) (s : V) : V :=
  if hole then .tup [sto m q b (n + 1), lvl 0 s, .int .i64 0] else if r.1 = 0 then .tup [sto m q b n, lvl r.2.1 s, .int .i64 0] else .tup [sto .nils .nils .nils 0, lvl 0 s, .int .i64 r.1]
def LevL (hole : Bool) (n : Int) (r : Int × Int × List (Int × Int)) : List (Int × Int) :=
  if hole then [(-1 - n, 0)] else if r.1 = 0 then r.2.2 else []

theorem retLev {hole : Bool} {m q b : V} (hm : IsIn m) (hq : IsIn q) (hb : IsIn b) {n : Int} {r : Int × Int × List (Int × Int)} {s : V} (hs' : IsVs (LevL hole n r) s) (k : Nat) (h : H) : retok k h (LevV hole m q b n r s) = some { v := LevV hole m q b n r s } := by
  have h0 : IsIn .nils := Or.inl rfl
  unfold LevV LevL at *
  split
  · exact ret_sto hm hq hb hs' _ _ _ _ _
  · split
    · exact ret_sto hm hq hb hs' _ _ _ _ _
    · exact ret_sto h0 h0 h0 hs' _ _ _ _ _

theorem f6 {ls : List ByteArray} {s : V} (hs' : IsSs ls s) (hln : ls.length < 9223372036854775808) {av : List (ByteArray × Int)} {sa : V} (hsa : IsAs av sa) (hal : av.length ≤ 10) (hp : ∀ a ∈ av, 0 ≤ a.2) {m q b : V} (hm : IsIn m) (hq : IsIn q) (hb : IsIn b) {n : Int} (hn0 : 0 ≤ n) (hn1 : n ≤ 60000) (hole : Bool) :
    ∃ s', IsVs (LevL hole n (levR ls av 0 [])) s' ∧ ∀ h, callS Tryz.prog hs ks 6 [s, sto m q b n, .agg [.bool hole, sa]] h = some [(.ret (LevV hole m q b n (levR ls av 0 []) s'), h)] := by
  have key : ∃ s', IsVs (LevL hole n (levR ls av 0 [])) s' ∧ ∃ h1, (EV Tryz.prog hs ks).call 6 [s, sto m q b n, .agg [.bool hole, sa]] H.empty = some [(.ret (LevV hole m q b n (levR ls av 0 []) s'), h1)] := by
    rw [k6_fun _ (by simp), empty_mkH]
    have hld : ∀ (x : Bool) (t : List V), loadV Tryz.prog 4 (.bool x :: t) = some (.bool x) := fun a t => by rw [ld4]; rfl
    have hld2 : ∀ (t : List V), loadV Tryz.prog 28 (sa :: t) = some sa := fun t => by rw [ld28]; rfl
    cases hole with
    | true =>
      refine ⟨.vs (vcs [(-1 - n, 0)]) 1 2 .tight, IsVs.mk' _ (Or.inl rfl), ?_⟩
      simp (disch := first | decide | omega) [sto, hld, ld27_4, bd68]
      generalize hF : at1 _ 21 (V.ptr 4 0) = F
      generalize hG : atB _ 4 _ = G
      have F6 : F 6 = .ptr 2 0 := by rw [← hF]; simp [at1_if]
      have F7 : F 7 = .ptr 3 0 := by rw [← hF]; simp [at1_if]
      have F9 : F 9 = .ptr 4 0 := by rw [← hF]; simp [at1_if]
      have G2 : G 2 = .row 0 [.nils, .nils, .nils, .int .i64 0] := by rw [← hG]; rfl
      have G3 : G 3 = .row 0 [.int .i64 0, .nils] := by rw [← hG]; rfl
      obtain ⟨nb', g', d', h1, hnb, g4, hk⟩ := f15 (m := m) (q := q) (b := b) (n := n) (nb := 5) (r := 4) (g := G) (d := []) (by decide) hn0 hn1 (by rw [← hG]; rfl)
      rw [h1]
      have g2 := (hk 2 (by decide) (by decide)).trans G2
      have g3 := (hk 3 (by decide) (by decide)).trans G3
      simp (disch := first | decide | omega) [F6, F7, F9, g2, g3, g4, ld27_4, ld37, sz27, sz37, hm.one, hq.one, hb.one, lvl, LevV, sto]
    | false =>
      simp (disch := first | decide | omega) [sto, hld, hld2, hsa.len, ld27_4]
      generalize hF : at1 _ 31 (V.int IntKind.i64 0) = F
      obtain ⟨e, f', nb', g', d', h1, h4, h6, h7, h11, hcase⟩ := l6 hs' hln hsa hal hp hm hq hb (n := n) av.length 0 0 F 5 (atB (atB (atB (atB (atB (fun x => Blk.gone) 0 (Blk.row 0 [m, q, b, V.int IntKind.i64 n])) 1 (Blk.row 0 [V.bool false, sa])) 2 (Blk.row 0 [V.nils, V.nils, V.nils, V.int IntKind.i64 0])) 3 (Blk.row 0 [V.int IntKind.i64 0, V.nils])) 4 (Blk.row 0 [V.int IntKind.i64 0, V.nils])) [] 0 []
        (by omega) (by omega) rfl (by rw [← hF]; simp [at1_if]) (by rw [← hF]; simp [at1_if]) (by rw [← hF]; simp [at1_if]) (by rw [← hF]; simp [at1_if]) (by rw [← hF]; simp [at1_if]) (by rw [← hF]; simp [at1_if]) (by rw [← hF]; simp [at1_if]) (by rw [← hF]; simp [at1_if]) Good.zero ⟨by decide, rfl, rfl, rfl, .nils, IsVs.nil, rfl⟩
      rw [List.drop_zero] at hcase
      rw [h1]
      rcases hcase with ⟨he, rfl, hnb, g0, g2, g3, s1, hs1, g4⟩ | ⟨he, rfl, h8, hnb, g2, g3⟩
      · refine ⟨s1, by simpa [LevL, he] using hs1, ?_⟩
        simp (disch := first | decide | omega) [h4, h6, h7, h11, g0, g2, g3, g4, ld27_4, ld37, sz27, sz37, hm.one, hq.one, hb.one, hs1.one, lvl, LevV, sto, he]
      · refine ⟨.nils, by simpa [LevL, he] using IsVs.nil, ?_⟩
        simp (disch := first | decide | omega) [h6, h7, h8, g2, g3, ld27_4, ld37, sz27, sz37, lvl, LevV, sto, he]
  obtain ⟨s', hs2, h1, hc⟩ := key
  exact ⟨s', hs2, fun h => callS_of (args' := [s, sto m q b n, .agg [.bool hole, sa]]) (by show [s.shut, (sto m q b n).shut, V.agg [_, sa.shut]] = _; rw [hs'.isIn.shut, hsa.isIn.shut, sto_seal hm hq hb]; rfl) (by show (V.pure s && (V.pure (sto m q b n) && (true && (V.pure sa && true) && true))) = true; rw [hs'.isIn.pure, hsa.isIn.pure, sto_pure hm hq hb]; rfl) rfl rfl hc (fun k => retLev hm hq hb hs2 k h1) h⟩
end Go.Proofs.YtelobjfgghlkfaaGreat.El

/- Levels: what the reference's Level returns. -/
set_option linter.unusedSimpArgs false
set_option linter.unusedVariables false
namespace Go.Proofs.YtelobjfgghlkfaaGreat.El
open Go Go.Ae
attribute [local simp] setF thenV_normal thenV_ret thenV_exit blockV_normal blockV_ret blockV_exit stepV_v stepV_some stepV_drop skipS_S thenC_ret S_get S_h S_dfs apply_v apply_wr apply_nw apply_wn at1_if atB_same atB_ne n_mkH get_mkH set_mkB new_mkB wantB_bool wantB_undef condV_true condV_false valS binV_int binV_str intOp_add intOp_sub intOp_eql intOp_neq intOp_lss intOp_leq intOp_gtr intOp_geq strOp_eql strOp_neq xPick_bool xUn_not ext_0 ext_1 ext_2 ext_3 addrAdd_ptr addrAdd_iptr xNilCheck_ptr build_C List.map cells_agg cells_int cells_bool cells_str cells_ptr cells_nils cells_vs xStore xLoad V.ones one_int one_bool one_str one_ptr one_nils one_vs splice resultVs_cons resultVs_nil resultV_tmp resultV_cell cellV_ptr resV_one resV_two resV_nil callOf_func callOf_yield callX_func thenC_noret stepD_vS stepD_rdS stepD_wrS stepD_nwS okD_nil okD_rd okD_wr okD_ww okD_rw okD_bef max2 eqBoolTT cond_true cond_false List.nil_append List.cons_append
attribute [local simp] k7_ret k7_nrm k7_c k7_0_c k7_0_0 k7_0_1 k7_0_2 k7_0_3 k7_0_4 k7_0_5 k7_1_c k7_2_c k7_4_c k7_4_0 k7_4_1 k7_4_2 k7_5_c k7_6_c k7_8_c k7_8_0 k7_8_1 k7_8_2 k7_8_3 k7_8_4 k7_8_5 k7_9_c k7_10_c k7_10_0 k7_10_1 k7_10_2 k7_10_3 k7_10_4 k7_10_5 k7_10_6 k7_10_7 k7_10_8 k7_10_9 k7_10_10 k7_11_c k7_7_c k7_3_c k7_12_c k7_12_0 k7_12_1 k7_12_2 k7_12_3 k7_13_c k7_14_c k7_16_c k7_16_0 k7_16_1 k7_17_c k7_19_c k7_20_c k7_22_c k7_22_0 k7_22_1 k7_22_2 k7_22_3 k7_22_4 k7_22_5 k7_23_c k7_24_c k7_25_c k7_21_c k7_26_c k7_28_c k7_29_c k7_29_0 k7_29_1 k7_29_2 k7_29_3 k7_29_4 k7_29_5 k7_29_6 k7_29_7 k7_30_c k7_31_c k7_31_0 k7_31_1 k7_31_2 k7_31_3 k7_31_4 k7_31_5 k7_31_6 k7_31_7 k7_31_8 k7_31_9 k7_32_c k7_33_c k7_35_c k7_35_0 k7_35_1 k7_35_2 k7_35_3 k7_36_c k7_37_c k7_39_c k7_39_0 k7_39_1 k7_39_2 k7_39_3 k7_39_4 k7_40_c k7_41_c k7_44_c k7_45_c k7_47_c k7_47_0 k7_47_1 k7_47_2 k7_47_3 k7_47_4 k7_47_5 k7_47_6 k7_47_7 k7_47_8 k7_47_9 k7_47_10 k7_47_11 k7_48_c k7_49_c k7_50_c k7_46_c k7_51_c k7_51_0 k7_51_1 k7_51_2 k7_51_3 k7_42_c k7_52_c k7_54_c k7_54_0 k7_54_1 k7_54_2 k7_55_c k7_56_c k7_58_c k7_58_0 k7_58_1 k7_58_2 k7_58_3 k7_58_4 k7_58_5 k7_59_c k7_57_c k7_53_c k7_53_0 k7_53_1 k7_53_2 k7_53_3 k7_53_4 k7_53_5 k7_53_6 k7_53_7 k7_53_8 k7_53_9 k7_38_c k7_34_c k7_60_c k7_62_c k7_62_0 k7_62_1 k7_62_2 k7_63_c k7_64_c k7_66_c k7_66_0 k7_66_1 k7_66_2 k7_66_3 k7_66_4 k7_66_5 k7_67_c k7_65_c k7_61_c k7_61_0 k7_61_1 k7_61_2 k7_61_3 k7_61_4 k7_61_5 k7_61_6 k7_61_7 k7_27_c k7_27_0 k7_27_1 k7_27_2 k7_27_3 k7_15_c k7_68_c k7_68_0 k7_68_1 k7_68_2 k7_68_3 k7_68_4 k7_68_5 k7_69_c

/-- What holds behind the loop. -/
def Q7 (m q b : V) (n : Int) (r : Int × Int × List (Int × Int)) (e : Ex) (f' : Nat → V) (nb' : Nat) (g' : Nat → Blk) : Prop :=
  f' 4 = .ptr 0 0 ∧ f' 6 = .ptr 2 0 ∧ f' 7 = .ptr 3 0 ∧ f' 9 = .ptr 4 0 ∧
    ((r.1 = 0 ∧ e = .exit 0 ∧ St6 m q b n r.2.1 r.2.2 nb' g') ∨
     (r.1 ≠ 0 ∧ e = .ret ∧ f' 8 = .int .i64 r.1 ∧ 4 < nb' ∧ g' 2 = .row 0 [.nils, .nils, .nils, .int .i64 0] ∧ g' 3 = .row 0 [.int .i64 0, .nils]))

set_option maxHeartbeats 8000000 in
theorem m7 {ls : List ByteArray} {s : V} (hs' : IsSs ls s) (hln : ls.length < 9223372036854775808) {av : List (ByteArray × Int)} {sa : V} (hsa : IsAs av sa) (hal : av.length ≤ 10) (hp : ∀ a ∈ av, 0 ≤ a.2) {m q b : V} (hm : IsIn m) (hq : IsIn q) (hb : IsIn b) {n : Int} :
    ∀ (k i : Nat) (I : Int) (f : Nat → V) (nb : Nat) (g : Nat → Blk) (d : List Nat) (c : Int) (l : List (Int × Int)), av.length - i = k → i ≤ av.length → I = i → f 0 = s → f 4 = .ptr 0 0 → f 5 = .ptr 1 0 → f 6 = .ptr 2 0 → f 7 = .ptr 3 0 → f 9 = .ptr 4 0 → f 10 = .int .i64 I → Good c l → St6 m q b n c l nb g → g 1 = .row 0 [.bool false, sa] →
    AeEnds 89 (Q7 m q b n (levR ls (av.drop i) c l)) (Qc Tryz.prog hs ks ⟨7, none⟩ k7_18 (S 89 f [] (mkH nb g d))) := by
  intro k
  have hld28 : ∀ (t : List V), loadV Tryz.prog 28 (sa :: t) = some sa := fun t => by rw [ld28]; rfl
  induction k with
  | zero =>
    intro i I f nb g d c l hk hi hI h0 h4 h5 h6 h7 h9 h10 hg hst g1
    have hI' : ¬ I < (av.length : Nat) := by omega
    have hd : av.drop i = [] := by rw [List.drop_eq_nil_iff]; omega
    obtain ⟨hnb, g0, g2, g3, s1, hs1, g4⟩ := id hst
    rw [k7_18_l, hd]
    simp (disch := first | decide | omega) [h5, h10, g1, hld28, hsa.len, hI']
    exact AeEnds.mk ⟨by simp [at1_if, h4], by simp [at1_if, h6], by simp [at1_if, h7], by simp [at1_if, h9], Or.inl ⟨rfl, rfl, hst⟩⟩
  | succ k ih =>
    intro i I f nb g d c l hk hi hI h0 h4 h5 h6 h7 h9 h10 hg hst g1
    have hi' : i < av.length := by omega
    have hI' : I < (av.length : Nat) := by omega
    obtain ⟨a, av', hd, hd'⟩ : ∃ a av', av.drop i = a :: av' ∧ av.drop (i + 1) = av' := ⟨_, _, List.drop_eq_getElem_cons hi', rfl⟩
    have hap : 0 ≤ a.2 := hp a (List.mem_of_mem_drop (i := i) (by rw [hd]; exact List.mem_cons_self ..))
    obtain ⟨hnb, g0, g2, g3, s1, hs1, g4⟩ := id hst
    have hix := hsa.idx hI hd
    have hld : ∀ (x y : V) (t : List V), loadV Tryz.prog 34 (x :: y :: t) = some (.agg [x, y]) := fun x y t => by rw [ld34]; simp
    have hld9 : ∀ (a : ByteArray) (t : List V), loadV Tryz.prog 9 (.str a :: t) = some (.str a) := fun a t => by rw [ld9]; rfl
    have sz34' : szOf Tryz.prog 34 = 2 := sz34
    have z0 : nb ≠ 0 := by omega
    have hp0 : ¬ a.2 < 0 := by omega
    have hsl := srch_lt ls a.1 ls.length
    rw [k7_18_l, hd]
    unfold levR
    cases hc : (a.1.data.toList == []) with
    | true =>
      by_cases hp1 : 100 < a.2
      · have e : atomR ls a.1 a.2 = (15, 0, []) := by unfold atomR; rw [hc]; simp [hp1]
        rw [e, if_neg (by decide)]
        simp (disch := first | decide | omega) [h0, h4, h5, h6, h7, h9, h10, g1, g2, g3, g4, hI', hix, hld, hld9, hld28, hsa.len, sz34', ld3, ld37, sz37, sz27, bd27, bd37, f18, ofV, hp0, hp1, hc, lvl, wrap_i64]
        refine AeEnds.mk ⟨by simp [at1_if, h4], by simp [at1_if, h6], by simp [at1_if, h7], by simp [at1_if, h9], Or.inr ⟨by decide, rfl, by simp [at1_if], by omega, ?_, ?_⟩⟩
        all_goals simp (disch := omega) [atB_ne, atB_same]
      · have e : atomR ls a.1 a.2 = (0, a.2, []) := by unfold atomR; rw [hc]; simp [hp1]
        have hg2 := atomR_good ls a.1 hap (by rw [e])
        rw [e] at hg2
        rw [e, if_pos rfl]
        obtain ⟨s3, hs3, hmx⟩ := f20 hg hg2 hs1 IsVs.nil
        have hmx' : ∀ h, callS Tryz.prog hs ks 20 [.agg [.int .i64 c, s1], .agg [.int .i64 a.2, .nils]] h = some [(.ret (.tup [.agg [.int .i64 (lim (mx c a.2) (mrg l [])), s3], .int .i64 0]), h)] := hmx
        simp (disch := first | decide | omega) [h0, h4, h5, h6, h7, h9, h10, g1, g2, g3, g4, hI', hix, hld, hld9, hld28, hsa.len, sz34', ld3, ld37, sz37, sz27, bd27, bd37, f18, ofV, hp0, hp1, hc, lvl, hmx', hs3.one, wrap_i64]
        rw [← hd']
        refine ih (i + 1) (I + 1) _ _ _ _ _ _ (by omega) (by omega) (by omega) ?_ ?_ ?_ ?_ ?_ ?_ ?_ (hg.max hg2) ⟨by omega, ?_, ?_, ?_, s3, hs3, ?_⟩ ?_
        iterate 7 simp [at1_if, h0, h4, h5, h6, h7, h9]
        all_goals simp (disch := omega) [atB_ne, atB_same, g0, g1, g2, g3]
    | false =>
      obtain ⟨o1, o2, hof⟩ : ∃ x y, ofV a.2 = .tup [.agg [.int .i64 x, .nils], .int .i64 y] := by
        unfold ofV
        split
        · exact ⟨_, _, rfl⟩
        · split <;> exact ⟨_, _, rfl⟩
      have f18' : ∀ h, callS Tryz.prog hs ks 18 [.int .i64 a.2] h = some [(.ret (.tup [.agg [.int .i64 o1, .nils], .int .i64 o2]), h)] := fun h => hof ▸ f18 a.2 h
      simp (disch := first | decide | omega) [h0, h4, h5, h6, h7, h9, h10, g1, g2, g3, g4, hI', hix, hld, hld9, hld28, hsa.len, sz34', ld3, ld37, sz37, sz27, bd27, bd37, f18', hc, hs'.len, wrap_i64]
      generalize hF : at1 _ 14 (V.int IntKind.i64 _) = F
      generalize hG : atB _ (nb + 1) _ = G
      have F0 : F 0 = s := by rw [← hF]; simp [at1_if, h0]
      have F4 : F 4 = .ptr 0 0 := by rw [← hF]; simp [at1_if, h4]
      have F5 : F 5 = .ptr 1 0 := by rw [← hF]; simp [at1_if, h5]
      have F6 : F 6 = .ptr 2 0 := by rw [← hF]; simp [at1_if, h6]
      have F7 : F 7 = .ptr 3 0 := by rw [← hF]; simp [at1_if, h7]
      have F9 : F 9 = .ptr 4 0 := by rw [← hF]; simp [at1_if, h9]
      have F10 : F 10 = .int .i64 I := by rw [← hF]; simp [at1_if, h10]
      have F11 : F 11 = .ptr nb 0 := by rw [← hF]; simp [at1_if]
      have F12 : F 12 = .ptr (nb + 1) 0 := by rw [← hF]; simp [at1_if]
      have Gb : G (nb + 1) = .row 0 [.int .i64 o1, .nils] := by rw [← hG, atB_same]
      have Ga : G nb = .row 0 [.str a.1, .int .i64 a.2] := by rw [← hG]; simp (disch := omega) [atB_ne, atB_same]
      have G0 : G 0 = _ := Eq.trans (by rw [← hG]; simp (disch := omega) [atB_ne]) g0
      have G1 : G 1 = _ := Eq.trans (by rw [← hG]; simp (disch := omega) [atB_ne]) g1
      have G2 : G 2 = _ := Eq.trans (by rw [← hG]; simp (disch := omega) [atB_ne]) g2
      have G3 : G 3 = _ := Eq.trans (by rw [← hG]; simp (disch := omega) [atB_ne]) g3
      have G4 : G 4 = _ := Eq.trans (by rw [← hG]; simp (disch := omega) [atB_ne]) g4
      obtain ⟨e, f', h1, rfl, e14, e0, e4, e5, e6, e7, e8, e9, e10, e11, e12, e13⟩ := l7 hs' hln (nm := a.1) (p := a.2) (B := nb) ls.length ((ls.length : Nat) - 1) F (nb + 1 + 1) G ((nb + 1) :: nb :: d) (Nat.le_refl _) rfl F0 F11 (by rw [← hF]; simp [at1_if]) (by omega) Ga
      rw [F0] at e0; rw [F4] at e4; rw [F5] at e5; rw [F6] at e6; rw [F7] at e7; rw [F9] at e9; rw [F10] at e10; rw [F11] at e11; rw [F12] at e12
      clear hF hG
      rw [h1]
      generalize hn : srch ls a.1 ls.length = n' at *
      by_cases hn0 : n' < 0
      · have e : atomR ls a.1 a.2 = (24, 0, []) := by unfold atomR; rw [hc, hn]; simp [hn0]
        rw [e, if_neg (by decide)]
        simp (disch := first | decide | omega) [e0, e4, e5, e6, e7, e9, e10, e11, e12, e14, Ga, Gb, G2, G3, ld3, ld37, sz37, sz27, bd27, bd37, hn0, wrap_i64]
        refine AeEnds.mk ⟨by simp [at1_if, e4], by simp [at1_if, e6], by simp [at1_if, e7], by simp [at1_if, e9], Or.inr ⟨by decide, rfl, by simp [at1_if], by omega, ?_, ?_⟩⟩
        all_goals simp (disch := omega) [atB_ne, atB_same]
      · by_cases hr : 7 < n' ∨ 100 < a.2
        · have e : atomR ls a.1 a.2 = (15, 0, []) := by unfold atomR; rw [hc, hn, if_neg (by simp), if_neg hn0, if_pos hr]
          rw [e, if_neg (by decide)]
          by_cases h7n : 7 < n'
          · have hv : ∀ h, callS Tryz.prog hs ks 19 [.int .i64 n', .int .i64 a.2] h = some [(.ret (.tup [.agg [.int .i64 0, .nils], .int .i64 2]), h)] := fun h => (f19 n' a.2 h).trans (by unfold varV; rw [if_pos (Or.inr (Or.inl h7n))]; rfl)
            simp (disch := first | decide | omega) [e0, e4, e5, e6, e7, e9, e10, e11, e12, e14, Ga, Gb, G2, G3, ld3, ld37, sz37, sz27, bd27, bd37, hn0, hv, wrap_i64]
            refine AeEnds.mk ⟨by simp [at1_if, e4], by simp [at1_if, e6], by simp [at1_if, e7], by simp [at1_if, e9], Or.inr ⟨by decide, rfl, by simp [at1_if], by omega, ?_, ?_⟩⟩
            all_goals simp (disch := omega) [atB_ne, atB_same]
          · have hv : ∀ h, callS Tryz.prog hs ks 19 [.int .i64 n', .int .i64 a.2] h = some [(.ret (.tup [.agg [.int .i64 0, .nils], .int .i64 15]), h)] := fun h => (f19 n' a.2 h).trans (by unfold varV; rw [if_neg (by omega), if_pos (by omega)]; rfl)
            simp (disch := first | decide | omega) [e0, e4, e5, e6, e7, e9, e10, e11, e12, e14, Ga, Gb, G2, G3, ld3, ld37, sz37, sz27, bd27, bd37, hn0, hv, wrap_i64]
            refine AeEnds.mk ⟨by simp [at1_if, e4], by simp [at1_if, e6], by simp [at1_if, e7], by simp [at1_if, e9], Or.inr ⟨by decide, rfl, by simp [at1_if], by omega, ?_, ?_⟩⟩
            all_goals simp (disch := omega) [atB_ne, atB_same]
        · have e : atomR ls a.1 a.2 = (0, 0, [(n', a.2)]) := by unfold atomR; rw [hc, hn, if_neg (by simp), if_neg hn0, if_neg hr]
          have hg2 := atomR_good ls a.1 hap (by rw [e])
          rw [e] at hg2
          rw [e, if_pos rfl]
          have hs2 : IsVs [(n', a.2)] (.vs (vcs [(n', a.2)]) 1 2 .tight) := IsVs.mk' _ (Or.inl rfl)
          obtain ⟨s3, hs3, hmx⟩ := f20 hg hg2 hs1 hs2
          have hmx' : ∀ h, callS Tryz.prog hs ks 20 [.agg [.int .i64 c, s1], .agg [.int .i64 0, .vs (vcs [(n', a.2)]) 1 2 .tight]] h = some [(.ret (.tup [.agg [.int .i64 (lim (mx c 0) (mrg l [(n', a.2)])), s3], .int .i64 0]), h)] := hmx
          have hv : ∀ h, callS Tryz.prog hs ks 19 [.int .i64 n', .int .i64 a.2] h = some [(.ret (.tup [.agg [.int .i64 0, .vs (vcs [(n', a.2)]) 1 2 .tight], .int .i64 0]), h)] := fun h => (f19 n' a.2 h).trans (by unfold varV; rw [if_neg (by omega), if_neg (by omega)]; rfl)
          simp (disch := first | decide | omega) [e0, e4, e5, e6, e7, e9, e10, e11, e12, e14, Ga, Gb, G2, G3, G4, ld3, ld37, sz37, sz27, bd27, bd37, hn0, hv, hmx', hs3.one, wrap_i64]
          rw [← hd']
          refine ih (i + 1) (I + 1) _ _ _ _ _ _ (by omega) (by omega) (by omega) ?_ ?_ ?_ ?_ ?_ ?_ ?_ (hg.max hg2) ⟨by omega, ?_, ?_, ?_, s3, hs3, ?_⟩ ?_
          iterate 7 simp [at1_if, e0, e4, e5, e6, e7, e9, e10]
          all_goals simp (disch := omega) [atB_ne, atB_same, G0, G1, G2, G3]

theorem xUn_neg {k : IntKind} {n : Int} : xUn .neg (.int k n) = some { v := .int k (k.wrap (0 - n)) } := rfl

theorem f7 {ls : List ByteArray} {s : V} (hs' : IsSs ls s) (hln : ls.length < 9223372036854775808) {av : List (ByteArray × Int)} {sa : V} (hsa : IsAs av sa) (hal : av.length ≤ 10) (hp : ∀ a ∈ av, 0 ≤ a.2) {m q b : V} (hm : IsIn m) (hq : IsIn q) (hb : IsIn b) {n : Int} (hn0 : 0 ≤ n) (hn1 : n ≤ 60000) (hole : Bool) :
    ∃ s', IsVs (LevL hole n (levR ls av 0 [])) s' ∧ ∀ h, callS Tryz.prog hs ks 7 [s, sto m q b n, .agg [.bool hole, sa]] h = some [(.ret (LevV hole m q b n (levR ls av 0 []) s'), h)] := by
  have key : ∃ s', IsVs (LevL hole n (levR ls av 0 [])) s' ∧ ∃ h1, (EV Tryz.prog hs ks).call 7 [s, sto m q b n, .agg [.bool hole, sa]] H.empty = some [(.ret (LevV hole m q b n (levR ls av 0 []) s'), h1)] := by
    rw [k7_fun _ (by simp), empty_mkH]
    have hld : ∀ (x : Bool) (t : List V), loadV Tryz.prog 4 (.bool x :: t) = some (.bool x) := fun a t => by rw [ld4]; rfl
    have hld2 : ∀ (t : List V), loadV Tryz.prog 28 (sa :: t) = some sa := fun t => by rw [ld28]; rfl
    cases hole with
    | true =>
      refine ⟨.vs (vcs [(-1 - n, 0)]) 1 2 .tight, IsVs.mk' _ (Or.inl rfl), ?_⟩
      have l1 : ∀ (a b : Int) (n : Nat), litS Tryz.prog false 35 1 [(0, .agg [.int .i64 a, .int .i64 b])] n = some { v := .vs (vcs [(a, b)]) 1 2 .tight } := lit35
      have w1 : IntKind.wrap .i64 (0 - (n + 1)) = -1 - n := by rw [wrap_i64 (by omega) (by omega)]; omega
      simp (disch := first | decide | omega) [sto, hld, ld27_4, ld3, sz3, xUn_neg, wrap_i64, bd74_0, bd37_1, l1, sz27, sz37, hm.one, hq.one, hb.one, lvl, LevV, ld37]
      rw [show -(n + 1) = -1 - n by omega]
    | false =>
      simp (disch := first | decide | omega) [sto, hld, hld2, hsa.len, ld27_4, bd37, sz37, ld37]
      generalize hF : at1 _ 10 (V.int IntKind.i64 0) = F
      obtain ⟨e, f', nb', g', d', h1, h4, h6, h7, h9, hcase⟩ := m7 hs' hln hsa hal hp hm hq hb (n := n) av.length 0 0 F 5 (atB (atB (atB (atB (atB (atB (fun x => Blk.gone) 0 (Blk.row 0 [m, q, b, V.int IntKind.i64 n])) 1 (Blk.row 0 [V.bool false, sa])) 2 (Blk.row 0 [V.nils, V.nils, V.nils, V.int IntKind.i64 0])) 3 (Blk.row 0 [V.int IntKind.i64 0, V.nils])) 4 (Blk.row 0 [V.int IntKind.i64 0, V.nils])) 4 (Blk.row 0 [V.int IntKind.i64 0, V.nils])) [4] 0 []
        (by omega) (by omega) rfl (by rw [← hF]; simp [at1_if]) (by rw [← hF]; simp [at1_if]) (by rw [← hF]; simp [at1_if]) (by rw [← hF]; simp [at1_if]) (by rw [← hF]; simp [at1_if]) (by rw [← hF]; simp [at1_if]) (by rw [← hF]; simp [at1_if]) Good.zero ⟨by decide, rfl, rfl, rfl, .nils, IsVs.nil, rfl⟩ rfl
      rw [List.drop_zero] at hcase
      rw [h1]
      rcases hcase with ⟨he, rfl, hnb, g0, g2, g3, s1, hs1, g4⟩ | ⟨he, rfl, h8, hnb, g2, g3⟩
      · refine ⟨s1, by simpa [LevL, he] using hs1, ?_⟩
        simp (disch := first | decide | omega) [h4, h6, h7, h9, g0, g2, g3, g4, ld27_4, ld37, sz27, sz37, hm.one, hq.one, hb.one, hs1.one, lvl, LevV, sto, he]
      · refine ⟨.nils, by simpa [LevL, he] using IsVs.nil, ?_⟩
        simp (disch := first | decide | omega) [h6, h7, h8, g2, g3, ld27_4, ld37, sz27, sz37, lvl, LevV, sto, he]
  obtain ⟨s', hs2, h1, hc⟩ := key
  exact ⟨s', hs2, fun h => callS_of (args' := [s, sto m q b n, .agg [.bool hole, sa]]) (by show [s.shut, (sto m q b n).shut, V.agg [_, sa.shut]] = _; rw [hs'.isIn.shut, hsa.isIn.shut, sto_seal hm hq hb]; rfl) (by show (V.pure s && (V.pure (sto m q b n) && (true && (V.pure sa && true) && true))) = true; rw [hs'.isIn.pure, hsa.isIn.pure, sto_pure hm hq hb]; rfl) rfl rfl hc (fun k => retLev hm hq hb hs2 k h1) h⟩
end Go.Proofs.YtelobjfgghlkfaaGreat.El

/- Levels: whether two are the same; the statement. -/
set_option linter.unusedSimpArgs false
set_option linter.unusedVariables false
namespace Go.Proofs.YtelobjfgghlkfaaGreat.El
open Go Go.Ae
attribute [local simp] setF thenV_normal thenV_ret thenV_exit blockV_normal blockV_ret blockV_exit stepV_v stepV_some stepV_drop skipS_S thenC_ret S_get S_h S_dfs apply_v apply_wr apply_nw apply_wn at1_if atB_same atB_ne n_mkH get_mkH set_mkB new_mkB wantB_bool wantB_undef condV_true condV_false valS binV_int binV_str intOp_add intOp_sub intOp_eql intOp_neq intOp_lss intOp_leq intOp_gtr intOp_geq strOp_eql strOp_neq xPick_bool xUn_not ext_0 ext_1 ext_2 ext_3 addrAdd_ptr addrAdd_iptr xNilCheck_ptr build_C List.map cells_agg cells_int cells_bool cells_str cells_ptr cells_nils cells_vs xStore xLoad V.ones one_int one_bool one_str one_ptr one_nils one_vs splice resultVs_cons resultVs_nil resultV_tmp resultV_cell cellV_ptr resV_one resV_two resV_nil callOf_func callOf_yield callX_func thenC_noret stepD_vS stepD_rdS stepD_wrS stepD_nwS okD_nil okD_rd okD_wr okD_ww okD_rw okD_bef max2 eqBoolTT cond_true cond_false List.nil_append List.cons_append
attribute [local simp] k4_ret k4_nrm k4_c k4_0_c k4_0_0 k4_0_1 k4_1_c k4_2_c k4_4_c k4_4_0 k4_4_1 k4_5_c k4_7_c k4_8_c k4_10_c k4_10_0 k4_10_1 k4_10_2 k4_10_3 k4_10_4 k4_10_5 k4_10_6 k4_10_7 k4_10_8 k4_11_c k4_12_c k4_13_c k4_9_c k4_14_c k4_16_c k4_17_c k4_17_0 k4_17_1 k4_17_2 k4_17_3 k4_17_4 k4_17_5 k4_17_6 k4_18_c k4_19_c k4_21_c k4_21_0 k4_21_1 k4_22_c k4_20_c k4_15_c k4_15_0 k4_15_1 k4_15_2 k4_15_3 k4_3_c k4_23_c k4_23_0 k4_23_1 k4_23_2 k4_23_3 k4_23_4 k4_24_c k8_ret k8_nrm k8_c k8_0_c k8_0_0 k8_0_1 k8_0_2 k8_0_3 k8_1_c k8_2_c k8_4_c k8_4_0 k8_4_1 k8_4_2 k8_4_3 k8_4_4 k8_4_5 k8_4_6 k8_4_7 k8_4_8 k8_4_9 k8_4_10 k8_4_11 k8_4_12 k8_4_13 k8_4_14 k8_5_c k8_6_c k8_8_c k8_8_0 k8_8_1 k8_9_c k8_7_c k8_3_c k8_10_c k8_12_c k8_12_0 k8_12_1 k8_13_c k8_15_c k8_16_c k8_18_c k8_18_0 k8_18_1 k8_18_2 k8_18_3 k8_18_4 k8_18_5 k8_19_c k8_20_c k8_21_c k8_17_c k8_22_c k8_24_c k8_25_c k8_25_0 k8_25_1 k8_25_2 k8_25_3 k8_25_4 k8_25_5 k8_25_6 k8_25_7 k8_25_8 k8_25_9 k8_25_10 k8_25_11 k8_26_c k8_27_c k8_29_c k8_29_0 k8_29_1 k8_30_c k8_28_c k8_23_c k8_23_0 k8_23_1 k8_23_2 k8_23_3 k8_11_c k8_31_c k8_31_0 k8_31_1 k8_32_c

theorem neq74' (a b a' b' : Int) : binV Tryz.prog .neq 74 false false (.agg [.int .i64 a, .int .i64 b]) (.agg [.int .i64 a', .int .i64 b']) =
    (match some (a == a') with
      | some true => (match some (b == b') with
        | some true => some true
        | r => r)
      | r => r).map fun b => V.bool !b := by kernel_rfl
theorem neq74 (a b : Int) : binV Tryz.prog .neq 74 false false (.agg [.int .i64 a, .int .i64 b]) (.agg [.int .i64 a, .int .i64 b]) = some (.bool false) := by
  rw [neq74', beq_self_eq_true, beq_self_eq_true]; rfl

theorem l8 {c1 c2 : Int} {l : List (Int × Int)} {s1 s2 : V} (h1 : IsVs l s1) (h2 : IsVs l s2) (hl : l.length ≤ 100000) : ∀ (k i : Nat) (I : Int) (f : Nat → V) (nb : Nat) (g : Nat → Blk) (d : List Nat), l.length - i = k → i ≤ l.length → I = i → f 2 = .ptr 0 0 → f 3 = .ptr 1 0 → f 5 = .int .i64 I → 1 < nb → g 0 = .row 0 [.int .i64 c1, s1] → g 1 = .row 0 [.int .i64 c2, s2] →
    AeEnds 38 (fun e f' nb' g' => e = .exit 0) (Qc Tryz.prog hs ks ⟨8, none⟩ k8_14 (S 38 f [] (mkH nb g d))) := by
  intro k
  induction k with
  | zero =>
    intro i I f nb g d hk hi hI e2 e3 e5 hnb g0 g1
    have hI' : ¬ I < (l.length : Nat) := by omega
    rw [k8_14_l]
    simp (disch := first | decide | omega) [e2, e3, e5, g0, g1, ld35, h1.len, hI']
    exact AeEnds.mk rfl
  | succ k ih =>
    intro i I f nb g d hk hi hI e2 e3 e5 hnb g0 g1
    have hi' : i < l.length := by omega
    have hI' : I < (l.length : Nat) := by omega
    obtain ⟨x, l', hd, hd'⟩ : ∃ a av', l.drop i = a :: av' ∧ l.drop (i + 1) = av' := ⟨_, _, List.drop_eq_getElem_cons hi', rfl⟩
    have hx1 := h1.idx' hI hi'
    have hx2 := h2.idx' hI hi'
    rw [hd] at hx1 hx2
    rw [k8_14_l]
    simp (disch := first | decide | omega) [e2, e3, e5, g0, g1, ld35, h1.len, hI', hx1, hx2, vcs_ld, neq74, wrap_i64]
    refine ih (i + 1) (I + 1) _ nb g d (by omega) (by omega) (by omega) ?_ ?_ ?_ hnb g0 g1
    all_goals simp [at1_if, e2, e3]

theorem f8 {c : Int} {l : List (Int × Int)} {s1 s2 : V} (h1 : IsVs l s1) (h2 : IsVs l s2) (hl : l.length ≤ 100000) (h : H) : callS Tryz.prog hs ks 8 [lvl c s1, lvl c s2] h = some [(.ret (.bool true), h)] := by
  have key : ∃ h1, (EV Tryz.prog hs ks).call 8 [lvl c s1, lvl c s2] H.empty = some [(.ret (.bool true), h1)] := by
    rw [k8_fun _ (by simp), empty_mkH]
    simp (disch := first | decide | omega) [lvl, ld3, ld35, h1.len, h2.len]
    generalize hF : at1 _ 5 (V.int IntKind.i64 0) = F
    obtain ⟨e, f', nb', g', d', e1, rfl⟩ := l8 (c1 := c) (c2 := c) h1 h2 hl l.length 0 0 F 2 (atB (atB (fun x => Blk.gone) 0 (Blk.row 0 [V.int IntKind.i64 c, s1])) 1 (Blk.row 0 [V.int IntKind.i64 c, s2])) [] (by omega) (by omega) rfl (by rw [← hF]; simp [at1_if]) (by rw [← hF]; simp [at1_if]) (by rw [← hF]; simp [at1_if]) (by decide) rfl rfl
    rw [e1]
    simp (disch := first | decide | omega)
  obtain ⟨h1', hc⟩ := key
  exact callS_of (args' := [lvl c s1, lvl c s2]) (by show [V.agg [_, s1.shut], V.agg [_, s2.shut]] = _; rw [h1.shut, h2.shut]; rfl) (by show (V.pure s1 && true && (V.pure s2 && true && true)) = true; rw [h1.pure, h2.pure]; rfl) rfl rfl hc (fun n => rfl) h

theorem l4 {ls : List ByteArray} {s : V} (hs' : IsSs ls s) : ∀ (k i : Nat) (I : Int) (f : Nat → V) (nb : Nat) (g : Nat → Blk) (d : List Nat), 10 - i = k → i ≤ 10 → i ≤ ls.length → I = i → f 0 = s → f 2 = .bool false → f 3 = .int .i64 I →
    AeStay 23 (mkH nb g d) (fun e f' => (e = .exit 0 ∧ f' 0 = s) ∨ (e = .ret ∧ f' 2 = .bool false)) (Qc Tryz.prog hs ks ⟨4, none⟩ k4_6 (S 23 f [] (mkH nb g d))) := by
  have hld : ∀ (a : ByteArray) (t : List V), loadV Tryz.prog 9 (.str a :: t) = some (.str a) := fun a t => by rw [ld9]; rfl
  have hsl : ∀ (a : ByteArray) (get : Nat → Blk) (n : Nat), builtinV Tryz.prog false get n .len [9] [.str a] = some { v := .int .i64 (a.size : Nat) } := by
    intro a get n
    show lenV Tryz.prog get 9 (.str a) = _
    unfold lenV
    rw [un9]
  intro k
  induction k with
  | zero =>
    intro i I f nb g d hk hi hi2 hI e0 e2 e3
    have hI' : ¬ I < 10 := by omega
    rw [k4_6_l]
    by_cases hlt : I < (ls.length : Nat)
    · simp (disch := first | decide | omega) [e0, e3, hs'.len, hI', hlt]
      exact AeStay.mk (Or.inl ⟨rfl, by simp [at1_if, e0]⟩)
    · simp (disch := first | decide | omega) [e0, e3, hs'.len, hI', hlt]
      exact AeStay.mk (Or.inl ⟨rfl, by simp [at1_if, e0]⟩)
  | succ k ih =>
    intro i I f nb g d hk hi hi2 hI e0 e2 e3
    have hI' : I < 10 := by omega
    rw [k4_6_l]
    by_cases hlt : I < (ls.length : Nat)
    · have hix := hs'.idx hI (show i < ls.length by omega)
      generalize (ls.map V.str).drop (i + 1) = tl at hix
      generalize ls[i] = x at hix
      by_cases hx : (60 : Int) < (x.size : Nat)
      · simp (disch := first | decide | omega) [e0, e3, hs'.len, hI', hlt, hix, hld, hsl, hx]
        exact AeStay.mk (Or.inr ⟨rfl, by simp [at1_if]⟩)
      · simp (disch := first | decide | omega) [e0, e3, hs'.len, hI', hlt, hix, hld, hsl, hx, wrap_i64]
        refine ih (i + 1) (I + 1) _ nb g d (by omega) (by omega) (by omega) (by omega) ?_ ?_ ?_
        all_goals simp [at1_if, e0, e2]
    · simp (disch := first | decide | omega) [e0, e3, hs'.len, hI', hlt]
      exact AeStay.mk (Or.inl ⟨rfl, by simp [at1_if, e0]⟩)

theorem f4 {ls : List ByteArray} {s : V} (hs' : IsSs ls s) : ∃ b : Bool, ∀ h, callS Tryz.prog hs ks 4 [s] h = some [(.ret (.bool b), h)] := by
  have key : AeRets (fun v _ _ => ∃ b : Bool, v = .bool b) ((EV Tryz.prog hs ks).call 4 [s] H.empty) := by
    rw [k4_fun _ (by simp), empty_mkH]
    simp (disch := first | decide | omega) only [k4_ret, k4_nrm, k4_c, k4_0_c, k4_0_0, k4_0_1, k4_1_c, k4_2_c, k4_4_c, k4_4_0, k4_4_1, k4_5_c, k4_7_c, k4_8_c, k4_10_c, k4_10_0, k4_10_1, k4_10_2, k4_10_3, k4_10_4, k4_10_5, k4_10_6, k4_10_7, k4_10_8, k4_11_c, k4_12_c, k4_13_c, k4_9_c, k4_14_c, k4_16_c, k4_17_c, k4_17_0, k4_17_1, k4_17_2, k4_17_3, k4_17_4, k4_17_5, k4_17_6, k4_18_c, k4_19_c, k4_21_c, k4_21_0, k4_21_1, k4_22_c, k4_20_c, k4_15_c, k4_15_0, k4_15_1, k4_15_2, k4_15_3, k4_3_c, k4_23_c, k4_23_0, k4_23_1, k4_23_2, k4_23_3, k4_23_4, k4_24_c, setF, thenV_normal, thenV_ret, thenV_exit, blockV_normal, blockV_ret, blockV_exit, stepV_v, stepV_some, stepV_drop, skipS_S, thenC_ret, S_get, S_h, S_dfs, apply_v, apply_wr, apply_nw, apply_wn, at1_if, atB_same, atB_ne, n_mkH, get_mkH, set_mkB, new_mkB, wantB_bool, wantB_undef, condV_true, condV_false, valS, binV_int, binV_str, intOp_add, intOp_sub, intOp_eql, intOp_neq, intOp_lss, intOp_leq, intOp_gtr, intOp_geq, strOp_eql, strOp_neq, xPick_bool, xUn_not, ext_0, ext_1, ext_2, ext_3, addrAdd_ptr, addrAdd_iptr, xNilCheck_ptr, build_C, List.map, cells_agg, cells_int, cells_bool, cells_str, cells_ptr, cells_nils, cells_vs, xStore, xLoad, V.ones, one_int, one_bool, one_str, one_ptr, one_nils, one_vs, splice, resultVs_cons, resultVs_nil, resultV_tmp, resultV_cell, cellV_ptr, resV_one, resV_two, resV_nil, callOf_func, callOf_yield, callX_func, thenC_noret, stepD_vS, stepD_rdS, stepD_wrS, stepD_nwS, okD_nil, okD_rd, okD_wr, okD_ww, okD_rw, okD_bef, max2, eqBoolTT, cond_true, cond_false, List.nil_append, List.cons_append, hs'.len]
    generalize hF : at1 _ 3 (V.int IntKind.i64 0) = F
    obtain ⟨e, f', e1, h⟩ := l4 hs' 10 0 0 F 0 (fun _ => .gone) [] (by omega) (by omega) (by omega) rfl (by rw [← hF]; simp [at1_if]) (by rw [← hF]; simp [at1_if]) (by rw [← hF]; simp [at1_if])
    rw [e1]
    rcases h with ⟨rfl, e0⟩ | ⟨rfl, e2⟩
    · simp (disch := first | decide | omega) [e0, hs'.len]
      exact AeRets.mk (by simp; omega)
    · simp (disch := first | decide | omega) [e2]
      exact AeRets.mk (by simp)
  obtain ⟨v, nb, g, d, hc, b, rfl⟩ := key
  exact ⟨b, fun h => callS_of (args' := [s]) (by show [s.shut] = _; rw [hs'.isIn.shut]) (by show (V.pure s && true) = true; rw [hs'.isIn.pure]; rfl) rfl rfl hc (fun n => rfl) h⟩
end Go.Proofs.YtelobjfgghlkfaaGreat.El

/- The statement about levels, computed. -/
set_option linter.unusedSimpArgs false
set_option linter.unusedVariables false
namespace Go.Proofs.YtelobjfgghlkfaaGreat.El
open Go Go.Ae
attribute [local simp] setF thenV_normal thenV_ret thenV_exit blockV_normal blockV_ret blockV_exit stepV_v stepV_some stepV_drop skipS_S thenC_ret S_get S_h S_dfs apply_v apply_wr apply_nw apply_wn at1_if atB_same atB_ne n_mkH get_mkH set_mkB new_mkB wantB_bool wantB_undef condV_true condV_false valS binV_int binV_str intOp_add intOp_sub intOp_eql intOp_neq intOp_lss intOp_leq intOp_gtr intOp_geq strOp_eql strOp_neq xPick_bool xUn_not ext_0 ext_1 ext_2 ext_3 addrAdd_ptr addrAdd_iptr xNilCheck_ptr build_C List.map cells_agg cells_int cells_bool cells_str cells_ptr cells_nils cells_vs xStore xLoad V.ones one_int one_bool one_str one_ptr one_nils one_vs splice resultVs_cons resultVs_nil resultV_tmp resultV_cell cellV_ptr resV_one resV_two resV_nil callOf_func callOf_yield callX_func thenC_noret stepD_vS stepD_rdS stepD_wrS stepD_nwS okD_nil okD_rd okD_wr okD_ww okD_rw okD_bef max2 eqBoolTT cond_true cond_false List.nil_append List.cons_append
attribute [local simp] k3_ret k3_nrm k3_c k3_0_c k3_0_0 k3_0_1 k3_0_2 k3_0_3 k3_1_c k3_2_c k3_4_c k3_4_0 k3_4_1 k3_4_2 k3_4_3 k3_4_4 k3_4_5 k3_4_6 k3_4_7 k3_4_8 k3_4_9 k3_4_10 k3_4_11 k3_4_12 k3_4_13 k3_4_14 k3_4_15 k3_4_16 k3_4_17 k3_4_18 k3_4_19 k3_5_c k3_6_c k3_8_c k3_8_0 k3_8_1 k3_8_2 k3_9_c k3_7_c k3_3_c k3_10_c k3_12_c k3_12_0 k3_12_1 k3_13_c k3_15_c k3_16_c k3_18_c k3_18_0 k3_18_1 k3_18_2 k3_18_3 k3_18_4 k3_18_5 k3_19_c k3_20_c k3_21_c k3_17_c k3_22_c k3_24_c k3_25_c k3_25_0 k3_25_1 k3_25_2 k3_25_3 k3_25_4 k3_25_5 k3_25_6 k3_25_7 k3_26_c k3_27_c k3_29_c k3_29_0 k3_29_1 k3_29_2 k3_30_c k3_28_c k3_23_c k3_23_0 k3_23_1 k3_23_2 k3_23_3 k3_11_c k3_31_c k3_31_0 k3_31_1 k3_31_2 k3_31_3 k3_31_4 k3_31_5 k3_31_6 k3_31_7 k3_31_8 k3_31_9 k3_31_10 k3_31_11 k3_31_12 k3_31_13 k3_32_c k3_33_c k3_33_0 k3_33_1 k3_33_2 k3_33_3 k3_33_4 k3_33_5 k3_33_6 k3_33_7 k3_33_8 k3_33_9 k3_33_10 k3_33_11 k3_33_12 k3_33_13 k3_34_c k3_35_c k3_35_0 k3_35_1 k3_35_2 k3_35_3 k3_35_4 k3_35_5 k3_35_6 k3_35_7 k3_35_8 k3_35_9 k3_35_10 k3_35_11 k3_35_12 k3_35_13 k3_35_14 k3_35_15 k3_35_16 k3_35_17 k3_35_18 k3_35_19 k3_35_20 k3_35_21 k3_35_22 k3_35_23 k3_35_24 k3_35_25 k3_35_26 k3_35_27 k3_35_28 k3_36_c

theorem f5 (h : H) : callS Tryz.prog hs ks 5 [] h = some [(.ret (.bool true), h)] := callS_known (args' := []) rfl rfl rfl h

theorem ld34_2 (x y : V) (t : List V) : loadV Tryz.prog 34 (x :: y :: t) = some (.agg [x, y]) := by rw [ld34]; simp
theorem sz30 : szOf Tryz.prog 30 = 2 := by kernel_rfl
theorem ld30_2 (x y : V) : loadV Tryz.prog 30 [x, y] = some (.agg [x, y]) := by rw [ld30]; simp
theorem ld28' {sa : V} (t : List V) : loadV Tryz.prog 28 (sa :: t) = some sa := by rw [ld28]; rfl
theorem ld3' {n : Int} (t : List V) : loadV Tryz.prog 3 (.int .i64 n :: t) = some (.int .i64 n) := by rw [ld3]; rfl

theorem add1 (x y : V) (t : List V) : addrAdd (.iptr (x :: y :: t)) 1 = some (.iptr (y :: t)) := addrAdd_iptr (by simp)

/-- No offset is negative. -/
def NN (l : List (ByteArray × Int)) : Prop := ∀ a ∈ l, 0 ≤ a.2

/-- The loop that looks at the atoms. -/
theorem l3 {av : List (ByteArray × Int)} {sa : V} (hsa : IsAs av sa) (hal : av.length ≤ 10) {hole : Bool} : ∀ (k i : Nat) (I : Int) (f : Nat → V) (nb : Nat) (g : Nat → Blk) (d : List Nat), av.length - i = k → i ≤ av.length → I = i → f 5 = .ptr 1 0 → f 7 = .int .i64 I → 1 < nb → g 1 = .row 0 [.bool hole, sa] →
    AeStay 92 (mkH nb g d) (fun e f' => (e = .exit 0 ∧ f' 0 = f 0 ∧ f' 4 = f 4 ∧ f' 5 = f 5 ∧ NN (av.drop i)) ∨ (e = .ret ∧ f' 6 = .bool true)) (Qc Tryz.prog hs ks ⟨3, none⟩ k3_14 (S 92 f [] (mkH nb g d))) := by
  intro k
  induction k with
  | zero =>
    intro i I f nb g d hk hi hI h5 h7 hnb g1
    have hI' : ¬ I < (av.length : Nat) := by omega
    have hd : av.drop i = [] := by rw [List.drop_eq_nil_iff]; omega
    rw [k3_14_l, hd]
    simp (disch := first | decide | omega) [h5, h7, g1, ld28', hsa.len, hI']
    exact AeStay.mk (Or.inl ⟨rfl, by simp [at1_if], by simp [at1_if], by simp [at1_if, h5], by intro a ha; cases ha⟩)
  | succ k ih =>
    intro i I f nb g d hk hi hI h5 h7 hnb g1
    have hi' : i < av.length := by omega
    have hI' : I < (av.length : Nat) := by omega
    obtain ⟨a, av', hd, hd'⟩ : ∃ a av', av.drop i = a :: av' ∧ av.drop (i + 1) = av' := ⟨_, _, List.drop_eq_getElem_cons hi', rfl⟩
    have hix := hsa.idx hI hd
    rw [k3_14_l, hd]
    by_cases hneg : a.2 < 0
    · simp (disch := first | decide | omega) [h5, h7, g1, ld28', ld3', hsa.len, hI', hix, add1, hneg, f5]
      exact AeStay.mk (Or.inr (by simp [at1_if]))
    · simp (disch := first | decide | omega) [h5, h7, g1, ld28', ld3', hsa.len, hI', hix, add1, hneg, wrap_i64]
      refine (ih (i + 1) (I + 1) _ nb g d (by omega) (by omega) (by omega) ?_ ?_ hnb g1).weak ?_
      · simp [at1_if, h5]
      · simp [at1_if]
      · rintro e f' (⟨h1, h2, h3, h4, h6⟩ | h)
        · refine Or.inl ⟨h1, by simpa [at1_if] using h2, by simpa [at1_if] using h3, by simpa [at1_if, h5] using h4, ?_⟩
          rw [hd'] at h6
          intro b hb
          rcases List.mem_cons.1 hb with rfl | hb
          · omega
          · exact h6 b hb
        · exact Or.inr h

theorem un23 : ∃ e, und Tryz.prog 23 = .slice e := by
  have h : (match und Tryz.prog 23 with | .slice _ => true | _ => false) = true := by kernel_rfl
  cases hu : und Tryz.prog 23 <;> rw [hu] at h <;> first | exact ⟨_, rfl⟩ | cases h
theorem len23 {m : V} (hm : IsIn m) : ∃ k : Int, ∀ (get : Nat → Blk) (n : Nat), builtinV Tryz.prog false get n .len [23] [m] = some { v := .int .i64 k } := by
  obtain ⟨e, hu⟩ := un23
  rcases hm with rfl | rfl | ⟨cs, n, z, rfl⟩
  · refine ⟨0, fun get k => ?_⟩
    show lenV Tryz.prog get 23 .nils = _
    unfold lenV
    rw [hu]
  · refine ⟨0, fun get k => ?_⟩
    show lenV Tryz.prog get 23 .ze = _
    unfold lenV
    rw [hu]
  · refine ⟨n, fun get k => ?_⟩
    show lenV Tryz.prog get 23 (.vs cs n z .lock) = _
    unfold lenV
    rw [hu]
theorem ld23' {m : V} (t : List V) : loadV Tryz.prog 23 (m :: t) = some m := by rw [ld23]; rfl

set_option maxHeartbeats 4000000 in
/-- The statement, computed. -/
theorem f3 {ls : List ByteArray} {s : V} (hs' : IsSs ls s) (hln : ls.length < 9223372036854775808) {av : List (ByteArray × Int)} {sa : V} (hsa : IsAs av sa) {m q b : V} (hm : IsIn m) (hq : IsIn q) (hb : IsIn b) (n : Int) (hole : Bool) :
    ∃ h1, (EV Tryz.prog hs ks).call 3 [s, sto m q b n, .agg [.bool hole, sa]] H.empty = some [(.ret (.bool true), h1)] := by
  obtain ⟨sh, hsh⟩ := f4 hs'
  rw [k3_fun _ (by simp), empty_mkH]
  have out : ∀ (f : Nat → V) (nb : Nat) (g : Nat → Blk) (d : List Nat), ∃ h1, endsV Tryz.prog hs ks Tryz.f3 (some [(.ret, S 92 (at1 f 6 (.bool true)) [] (mkH nb g d))]) = some [(.ret (.bool true), h1)] := by
    intro f nb g d
    simp (disch := first | decide | omega)
  cases sh with
  | false =>
    simp (disch := first | decide | omega) [hsh, f5]
  | true =>
    by_cases hl : (10 : Int) < (av.length : Nat)
    · simp (disch := first | decide | omega) [hsh, f5, sto, ld28', hsa.len, hl]
    · by_cases hn0 : n < 0
      · simp (disch := first | decide | omega) [hsh, f5, sto, ld28', ld3', hsa.len, hl, hn0]
      · by_cases hn1 : 60000 < n
        · simp (disch := first | decide | omega) [hsh, f5, sto, ld28', ld3', hsa.len, hl, hn0, hn1]
        · simp (disch := first | decide | omega) [hsh, f5, sto, ld28', ld3', hsa.len, hl, hn0, hn1]
          generalize hF : at1 _ 7 (V.int IntKind.i64 0) = F
          obtain ⟨e, f', e1, hcase⟩ := l3 hsa (by omega) (hole := hole) av.length 0 0 F 2 (atB (atB (fun x => Blk.gone) 0 (Blk.row 0 [m, q, b, V.int IntKind.i64 n])) 1 (Blk.row 0 [V.bool hole, sa])) [] (by omega) (by omega) rfl (by rw [← hF]; simp [at1_if]) (by rw [← hF]; simp [at1_if]) (by decide) rfl
          rw [e1]
          rcases hcase with ⟨rfl, r0, r4, r5, hnn⟩ | ⟨rfl, r6⟩
          · rw [List.drop_zero] at hnn
            have F0 : f' 0 = s := by rw [r0, ← hF]; simp [at1_if]
            have F4 : f' 4 = .ptr 0 0 := by rw [r4, ← hF]; simp [at1_if]
            have F5 : f' 5 = .ptr 1 0 := by rw [r5, ← hF]; simp [at1_if]
            clear hF
            obtain ⟨s1, hs1, hc1⟩ := f6 hs' hln hsa (by omega) hnn hm hq hb (n := n) (by omega) (by omega) hole
            obtain ⟨s2, hs2, hc2⟩ := f7 hs' hln hsa (by omega) hnn hm hq hb (n := n) (by omega) (by omega) hole
            obtain ⟨km, hkm⟩ := len23 hm
            obtain ⟨kn, hkn⟩ := len23 (m := .nils) (Or.inl rfl)
            have hgood := levR_good ls av 0 [] hnn Good.zero
            unfold sto at hc1 hc2
            cases hole with
            | true =>
              have hc1' : ∀ h, callS Tryz.prog hs ks 6 [s, .agg [m, q, b, .int .i64 n], .agg [.bool true, sa]] h = some [(.ret (.tup [.agg [m, q, b, .int .i64 (n + 1)], .agg [.int .i64 0, s1], .int .i64 0]), h)] := hc1
              have hc2' : ∀ h, callS Tryz.prog hs ks 7 [s, .agg [m, q, b, .int .i64 n], .agg [.bool true, sa]] h = some [(.ret (.tup [.agg [m, q, b, .int .i64 (n + 1)], .agg [.int .i64 0, s2], .int .i64 0]), h)] := hc2
              have hsame : ∀ h, callS Tryz.prog hs ks 8 [.agg [.int .i64 0, s1], .agg [.int .i64 0, s2]] h = some [(.ret (.bool true), h)] := f8 hs1 hs2 (by simp [LevL])
              simp (disch := first | decide | omega) [F0, F4, F5, f5, ld27_4, ld30_2, hc1', hc2', sz27, sz37, hm.one, hq.one, hb.one, hs1.one, hs2.one, ld3', ld23', hkm, ld37, hsame]
            | false =>
              by_cases he : (levR ls av 0 []).1 = 0
              · have hv1 : LevV false m q b n (levR ls av 0 []) s1 = .tup [.agg [m, q, b, .int .i64 n], .agg [.int .i64 (levR ls av 0 []).2.1, s1], .int .i64 0] := by simp [LevV, he, sto, lvl]
                have hv2 : LevV false m q b n (levR ls av 0 []) s2 = .tup [.agg [m, q, b, .int .i64 n], .agg [.int .i64 (levR ls av 0 []).2.1, s2], .int .i64 0] := by simp [LevV, he, sto, lvl]
                rw [hv1] at hc1
                rw [hv2] at hc2
                have hL : LevL false n (levR ls av 0 []) = (levR ls av 0 []).2.2 := by simp [LevL, he]
                rw [hL] at hs1 hs2
                have hlen := (hgood he).len
                have hsame : ∀ h, callS Tryz.prog hs ks 8 [.agg [.int .i64 (levR ls av 0 []).2.1, s1], .agg [.int .i64 (levR ls av 0 []).2.1, s2]] h = some [(.ret (.bool true), h)] := f8 hs1 hs2 (by omega)
                simp (disch := first | decide | omega) [F0, F4, F5, f5, ld27_4, ld30_2, hc1, hc2, sz27, sz37, hm.one, hq.one, hb.one, hs1.one, hs2.one, ld3', ld23', hkm, ld37, hsame]
              · have hv1 : LevV false m q b n (levR ls av 0 []) s1 = .tup [.agg [.nils, .nils, .nils, .int .i64 0], .agg [.int .i64 0, s1], .int .i64 (levR ls av 0 []).1] := by simp [LevV, he, sto, lvl]
                have hv2 : LevV false m q b n (levR ls av 0 []) s2 = .tup [.agg [.nils, .nils, .nils, .int .i64 0], .agg [.int .i64 0, s2], .int .i64 (levR ls av 0 []).1] := by simp [LevV, he, sto, lvl]
                rw [hv1] at hc1
                rw [hv2] at hc2
                have hL : LevL false n (levR ls av 0 []) = [] := by simp [LevL, he]
                rw [hL] at hs1 hs2
                have hsame : ∀ h, callS Tryz.prog hs ks 8 [.agg [.int .i64 0, s1], .agg [.int .i64 0, s2]] h = some [(.ret (.bool true), h)] := f8 hs1 hs2 (by simp)
                simp (disch := first | decide | omega) [F0, F4, F5, f5, ld27_4, ld30_2, hc1, hc2, sz27, sz37, hs1.one, hs2.one, ld3', ld23', hkn, ld37, hsame]
          · simp (disch := first | decide | omega) [r6]
end Go.Proofs.YtelobjfgghlkfaaGreat.El
