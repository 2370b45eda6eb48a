/- The statement, computed. -/
import Derived.Test.YtdlaladdeelegaaGreatF4
set_option linter.all false
noncomputable section
namespace Go.Proofs.YtdlaladdeelegaaGreat.Cg
open Go Go.Ae
attribute [local simp] setF thenV_normal thenV_ret thenV_exit blockV_normal blockV_ret blockV_exit stepV_some stepV_drop skipS_S thenC_ret S_get S_h S_dfs apply_v apply_wr apply_nw apply_wn at1_if atB_same atB_ne n_mkH get_mkH set_mkB new_mkB wantB_bool wantB_undef condV_true condV_false valS binV_int binV_str intOp_add intOp_sub intOp_eql intOp_neq intOp_lss intOp_leq intOp_gtr intOp_geq strOp_eql strOp_neq xPick_bool xUn_not ext_0 ext_1 ext_2 ext_3 addrAdd_ptr xNilCheck_ptr build_C cells_agg cells_int cells_bool cells_str cells_ptr cells_vs xStore xLoad V.ones one_int one_bool one_str one_ptr one_nils one_vs resultVs_cons resultVs_nil resultV_tmp cellV_ptr resV_one resV_two resV_nil callOf_func callOf_yield callX_func thenC_noret stepD_vS stepD_rdS stepD_wrS stepD_nwS stepD_wvS okD_nil okD_rd okD_wr okD_bef max2 cond_true cond_false List.nil_append List.cons_append k7_ret k7_c k7_0_c k7_0_0 k7_0_1 k7_1_c k7_2_c k7_2_0 k7_2_1 k7_2_2 k7_2_3 k7_2_4 k7_2_5 k7_2_6 k7_2_7 k7_2_8 k7_2_9 k7_2_10 k7_2_11 k7_2_12 k7_2_13 k7_3_c k9_ret k9_c k9_0_c k9_0_0 k9_0_1 k9_0_2 k9_1_c k9_2_c k9_4_c k9_4_0 k9_4_1 k9_4_2 k9_4_3 k9_4_4 k9_4_5 k9_5_c k9_6_c k9_6_0 k9_6_1 k9_6_2 k9_7_c k9_8_c k9_10_c k9_10_0 k9_10_1 k9_10_2 k9_10_3 k9_11_c k9_9_c k9_3_c k9_12_c k9_12_0 k9_12_1 k9_12_2 k9_12_3 k9_12_4 k9_12_5 k9_13_c k9_14_c k9_14_0 k9_14_1 k9_14_2 k9_14_3 k9_14_4 k9_14_5 k9_14_6 k9_14_7 k9_15_c k9_16_c k9_18_c k9_18_0 k9_18_1 k9_18_2 k9_18_3 k9_18_4 k9_18_5 k9_18_6 k9_19_c k9_21_c k9_22_c k9_22_0 k9_22_1 k9_23_c k9_24_c k9_26_c k9_27_c k9_25_c k9_28_c k9_30_c k9_31_c k9_31_0 k9_31_1 k9_31_2 k9_31_3 k9_31_4 k9_31_5 k9_32_c k9_32_0 k9_32_1 k9_32_2 k9_32_3 k9_32_4 k9_32_5 k9_32_6 k9_32_7 k9_32_8 k9_32_9 k9_32_10 k9_32_11 k9_32_12 k9_29_c k9_29_0 k9_29_1 k9_29_2 k9_17_c k9_33_c k9_33_0 k9_33_1 k9_33_2 k9_33_3 k9_34_c
attribute [local simp] ld3 ld126 ld42 ld27 ld78 ix27v ix27h ix78h ix22v sz3 sz126 sz42 sz27 cells_nils callOf_func callX_func
attribute [-simp] k9_13_c k9_11_c
def fewB (t : Int) (la lm : List PrI) : Bool := decide (t ≤ 16) && decide ((la.length : Int) ≤ 16) && decide ((lm.length : Int) ≤ 16)
theorem few_call {t : Int} {la lm : List PrI} {av mv : V} (hA : InS av la) (hM : InS mv lm) (h : H) : callS Tryz.prog hs ks 7 [.int .i64 t, av, mv] h = some [(.ret (.bool (fewB t la lm)), h)] := by
 obtain ⟨hA', pa⟩ := hA.shut
 obtain ⟨hM', pm⟩ := hM.shut
 generalize hav : V.shut av = av' at hA' pa
 generalize hmv : V.shut mv = mv' at hM' pm
 have key : AeRets (fun v _ _ => v = .bool (fewB t la lm)) ((EV Tryz.prog hs ks).call 7 [.int .i64 t, av', mv'] (mkH 0 (fun _ => .gone) [])) := by
  have la1 := len22 hA'
  have lm1 := len22 hM'
  rw [k7_fun _ (by simp)]
  by_cases h1 : t ≤ 16
  ·by_cases h2 : (la.length : Int) ≤ 16
   ·simp (disch := first | assumption | decide | omega) [h1, h2, la1, lm1]
    refine AeRets.mk ?_
    simp [fewB, h1, h2]
   ·simp (disch := first | assumption | decide | omega) [h1, h2, la1, lm1]
    refine AeRets.mk ?_
    simp [fewB, h1, h2]
  ·simp (disch := first | assumption | decide | omega) [h1, la1, lm1]
   refine AeRets.mk ?_
   simp [fewB, h1]
 obtain ⟨v, nb', g', d', hc, rfl⟩ := key
 exact callS_of (args' := [.int .i64 t, av', mv']) (by show [V.shut (.int .i64 t), V.shut av, V.shut mv] = _; rw [hav, hmv]; rfl) (by show (V.pure (.int .i64 t) && (V.pure av' && (V.pure mv' && true))) = true; rw [pa, pm]; rfl) (ks_none (by decide)) rfl hc (fun n => rfl) h
theorem close_err {t : Int} {la lm : List PrI} {av mv : V} (ht : t ≤ 16) (hA : InS av la) (hM : InS mv lm) (hLa : la.length ≤ 16) (hLm : lm.length ≤ 16) (hchk : chkR t la lm = 2) :
 AeRets (fun v _ _ => v = .tup [.nils, .int .i64 2]) ((EV Tryz.prog hs ks).call 9 [.int .i64 t, av, mv] (mkH 0 (fun _ => .gone) [])) := by
 have hck := check_call (t := t) ht (by omega) hA hM hLa hLm
 rw [hchk] at hck
 have hneq : binV Tryz.prog .neq 28 false true (.int .i64 2) (.int .i64 0) = some (.bool true) := rfl
 rw [k9_fun _ (by simp)]
 simp (disch := first | assumption | decide | omega) [hck, hneq, k9_11_c]
 refine AeRets.mk ?_
 rfl
inductive CloR (t : Int) (la lm : List PrI) : V → Prop
 | err (h : chkR t la lm = 2) : CloR t la lm (.tup [.nils, .int .i64 2])
 | ok {m : Nat} {res : List Nat} (ht : t = m) (h : chkR t la lm = 0) (hr : LeastC m (toK la) (toK lm) (fun _ => true) res) : CloR t la lm (.tup [.vs (ints res) res.length 1 .tight, .int .i64 0])
theorem chk_cases (t : Int) (la lm : List PrI) : chkR t la lm = 0 ∨ chkR t la lm = 2 := by
 unfold chkR; split
 ·exact .inr rfl
 ·split
  ·exact .inl rfl
  ·exact .inr rfl
theorem close_call {t : Int} {la lm : List PrI} {av mv : V} (ht : t ≤ 16) (hA : InS av la) (hM : InS mv lm) (hLa : la.length ≤ 16) (hLm : lm.length ≤ 16) : ∃ v, CloR t la lm v ∧ ∀ h, callS Tryz.prog hs ks 9 [.int .i64 t, av, mv] h = some [(.ret v, h)] := by
 obtain ⟨hA', pa⟩ := hA.shut
 obtain ⟨hM', pm⟩ := hM.shut
 have hsl : V.seals [.int .i64 t, av, mv] = [.int .i64 t, V.shut av, V.shut mv] := rfl
 have hpu : V.pures [.int .i64 t, V.shut av, V.shut mv] = true := by
  show (V.pure (.int .i64 t) && (V.pure (V.shut av) && (V.pure (V.shut mv) && true))) = true
  rw [pa, pm]; rfl
 rcases chk_cases t la lm with hchk | hchk
 ·have h0 : 0 ≤ t := by
   unfold chkR at hchk
   split at hchk
   ·cases hchk
   ·omega
  obtain ⟨m, rfl⟩ : ∃ m : Nat, t = m := ⟨t.toNat, by omega⟩
  have hP := right_of hchk
  obtain ⟨A, hnew, hclo⟩ := new_ok (used := fun _ => true) hP (by rw [toK_len]; omega)
  obtain ⟨res, hmin, hl, _⟩ := hclo.least (by rw [toK_len]; omega)
  have hlen := hl.len
  rw [toK_len] at hlen
  obtain ⟨v, nb', g', d', hc, ro, rfl, hro, hg⟩ := close_ok (by omega) hA' hM' hLa hLm hchk hnew hmin hlen
  refine ⟨_, .ok rfl hchk hl, fun h => callS_of hsl hpu (ks_none (by decide)) rfl hc (fun n => ?_) h⟩
  rw [← hlen]
  exact ret_close hro hg rfl 0 n
 ·obtain ⟨v, nb', g', d', hc, rfl⟩ := close_err ht hA' hM' hLa hLm hchk
  exact ⟨_, .err hchk, fun h => callS_of hsl hpu (ks_none (by decide)) rfl hc (fun n => rfl) h⟩
end Go.Proofs.YtdlaladdeelegaaGreat.Cg
end
noncomputable section
namespace Go.Proofs.YtdlaladdeelegaaGreat.Cg
open Go Go.Ae
attribute [local simp] setF thenV_normal thenV_ret thenV_exit blockV_normal blockV_ret blockV_exit stepV_some stepV_drop skipS_S thenC_ret S_get S_h S_dfs apply_v apply_wr apply_nw apply_wn at1_if atB_same atB_ne n_mkH get_mkH set_mkB new_mkB wantB_bool wantB_undef condV_true condV_false valS binV_int binV_str intOp_add intOp_sub intOp_eql intOp_neq intOp_lss intOp_leq intOp_gtr intOp_geq strOp_eql strOp_neq xPick_bool xUn_not ext_0 ext_1 ext_2 ext_3 addrAdd_ptr xNilCheck_ptr build_C cells_agg cells_int cells_bool cells_str cells_ptr cells_vs xStore xLoad V.ones one_int one_bool one_str one_ptr one_nils one_vs resultVs_cons resultVs_nil resultV_tmp cellV_ptr resV_one resV_two resV_nil callOf_func callOf_yield callX_func thenC_noret stepD_vS stepD_rdS stepD_wrS stepD_nwS stepD_wvS okD_nil okD_rd okD_wr okD_bef max2 cond_true cond_false List.nil_append List.cons_append k5_ret k5_c k5_0_c k5_0_0 k5_0_1 k5_0_2 k5_1_c k5_2_c k5_4_c k5_4_0 k5_4_1 k5_4_2 k5_4_3 k5_4_4 k5_4_5 k5_4_6 k5_4_7 k5_4_8 k5_5_c k5_6_c k5_8_c k5_8_0 k5_8_1 k5_8_2 k5_9_c k5_7_c k5_3_c k5_10_c k5_10_0 k5_10_1 k5_10_2 k5_10_3 k5_10_4 k5_10_5 k5_10_6 k5_10_7 k5_10_8 k5_10_9 k5_10_10 k5_10_11 k5_10_12 k5_11_c k5_12_c k5_14_c k5_14_0 k5_14_1 k5_14_2 k5_15_c k5_16_c k5_18_c k5_18_0 k5_18_1 k5_18_2 k5_18_3 k5_18_4 k5_18_5 k5_18_6 k5_18_7 k5_19_c k5_17_c k5_13_c k5_20_c k5_22_c k5_22_0 k5_22_1 k5_22_2 k5_22_3 k5_22_4 k5_22_5 k5_22_6 k5_22_7 k5_22_8 k5_22_9 k5_22_10 k5_22_11 k5_22_12 k5_22_13 k5_22_14 k5_23_c k5_25_c k5_21_c k5_28_c k5_30_c k5_30_0 k5_30_1 k5_30_2 k5_30_3 k5_31_c k5_33_c k5_34_c k5_34_0 k5_34_1 k5_35_c k5_36_c k5_38_c k5_39_c k5_37_c k5_40_c k5_42_c k5_43_c k5_43_0 k5_43_1 k5_43_2 k5_43_3 k5_43_4 k5_43_5 k5_44_c k5_45_c k5_45_0 k5_45_1 k5_45_2 k5_45_3 k5_45_4 k5_45_5 k5_45_6 k5_45_7 k5_45_8 k5_45_9 k5_45_10 k5_45_11 k5_45_12 k5_45_13 k5_45_14 k5_45_15 k5_46_c k5_48_c k5_41_c k5_41_0 k5_41_1 k5_41_2 k5_29_c k5_51_c k5_53_c k5_53_0 k5_53_1 k5_53_2 k5_53_3 k5_53_4 k5_54_c k5_56_c k5_57_c k5_57_0 k5_57_1 k5_58_c k5_59_c k5_61_c k5_62_c k5_60_c k5_63_c k5_65_c k5_66_c k5_66_0 k5_66_1 k5_66_2 k5_66_3 k5_66_4 k5_67_c k5_68_c k5_68_0 k5_68_1 k5_68_2 k5_68_3 k5_68_4 k5_68_5 k5_68_6 k5_68_7 k5_68_8 k5_68_9 k5_68_10 k5_68_11 k5_68_12 k5_68_13 k5_68_14 k5_68_15 k5_68_16 k5_68_17 k5_68_18 k5_68_19 k5_68_20 k5_68_21 k5_68_22 k5_68_23 k5_68_24 k5_68_25 k5_68_26 k5_68_27 k5_68_28 k5_68_29 k5_69_c k5_71_c k5_64_c k5_64_0 k5_64_1 k5_64_2 k5_52_c k5_74_c k5_76_c k5_76_0 k5_76_1 k5_76_2 k5_76_3 k5_76_4 k5_77_c k5_79_c k5_80_c k5_80_0 k5_80_1 k5_81_c k5_82_c k5_84_c k5_85_c k5_83_c k5_86_c k5_88_c k5_89_c k5_89_0 k5_89_1 k5_89_2 k5_89_3 k5_89_4 k5_89_5 k5_89_6 k5_90_c k5_91_c k5_91_0 k5_91_1 k5_91_2 k5_91_3 k5_91_4 k5_91_5 k5_91_6 k5_92_c k5_94_c k5_95_c k5_95_0 k5_95_1 k5_96_c k5_97_c k5_99_c k5_100_c k5_98_c k5_101_c k5_103_c k5_104_c k5_104_0 k5_104_1 k5_104_2 k5_104_3 k5_104_4 k5_104_5 k5_104_6 k5_105_c k5_106_c k5_108_c k5_108_0 k5_108_1 k5_108_2 k5_108_3 k5_108_4 k5_108_5 k5_108_6 k5_108_7 k5_108_8 k5_108_9 k5_108_10 k5_108_11 k5_108_12 k5_108_13 k5_108_14 k5_108_15 k5_108_16 k5_108_17 k5_108_18 k5_108_19 k5_108_20 k5_108_21 k5_108_22 k5_108_23 k5_108_24 k5_109_c k5_111_c k5_107_c k5_114_c k5_114_0 k5_114_1 k5_114_2 k5_114_3 k5_114_4 k5_114_5 k5_114_6 k5_114_7 k5_114_8 k5_114_9 k5_114_10 k5_114_11 k5_114_12 k5_114_13 k5_114_14 k5_114_15 k5_114_16 k5_114_17 k5_114_18 k5_114_19 k5_114_20 k5_114_21 k5_114_22 k5_114_23 k5_114_24 k5_114_25 k5_114_26 k5_114_27 k5_114_28 k5_114_29 k5_114_30 k5_114_31 k5_114_32 k5_114_33 k5_114_34 k5_114_35 k5_114_36 k5_114_37 k5_114_38 k5_114_39 k5_114_40 k5_114_41 k5_115_c k5_117_c k5_102_c k5_102_0 k5_102_1 k5_102_2 k5_87_c k5_87_0 k5_87_1 k5_87_2 k5_75_c k5_120_c k5_120_0 k5_120_1 k5_120_2 k5_121_c
attribute [local simp] ld3 ld126 ld42 ld27 ld22 ix27v ix22v ix42_0 ix42_1 sz3 sz42 sz27 sp2 cells_nils callOf_func callX_func okD_nr okD_nn
attribute [-simp] intOp_lss intOp_gtr intOp_add intOp_eql intOp_neq intOp_sub intOp_geq max2
theorem lt0 {a : Nat} : intOp .lss .i64 (a : Int) .i64 0 = some (.bool false) := by rw [intOp_lss, decide_eq_false (by omega)]
theorem geN {a b : Nat} : intOp .geq .i64 (a : Int) .i64 (b : Int) = some (.bool (decide (b ≤ a))) := by rw [intOp_geq]; congr 2; simp
theorem minN {get : Nat → Blk} {nid : Nat} {ts : List TypeId} {a b : Nat} : builtinV Tryz.prog false get nid .min ts [nv a, nv b] = some { v := nv (min a b) } := by
 rw [min2]
 congr 3
 by_cases h : b < a
 ·rw [if_pos (by omega)]; omega
 ·rw [if_neg (by omega)]; omega
theorem maxN {get : Nat → Blk} {nid : Nat} {ts : List TypeId} {a b : Nat} : builtinV Tryz.prog false get nid .max ts [nv a, nv b] = some { v := nv (max a b) } := by
 rw [max2]
 congr 3
 by_cases h : a < b
 ·rw [if_pos (by omega)]; omega
 ·rw [if_neg (by omega)]; omega
attribute [local simp] lt0 minN maxN
abbrev LV (res : List Nat) : V := .vs (ints res) res.length 1 .tight
set_option maxHeartbeats 1000000 in
theorem rel_loop0 {res : List Nat} (hL : res.length < 100000) (hrep : ∀ i r : Nat, res[i]? = some r → r ≤ i ∧ res[r]? = some r) : ∀ (k i : Nat) (f : Nat → V) (h : H), res.length - i = k → i ≤ res.length → f 3 = LV res → f 54 = LV res → f 55 = nv res.length → f 56 = nv i →
 AeStay 200 h (fun e f' => e = .exit 0 ∧ f' 1 = f 1 ∧ f' 3 = LV res) (C 5 k5_32 (S 200 f [] h)) := by
 intro k
 induction k with
 | zero =>
   intro i f h hk hi f3 f54 f55 f56
   obtain rfl : i = res.length := by omega
   rw [k5_32_l]
   simp (disch := first | assumption | decide | omega) [f55, f56, ltN]
   refine AeStay.mk ⟨rfl, ?_, ?_⟩
   ·simp
   ·simp [f3]
 | succ k ih =>
   intro i f h hk hi f3 f54 f55 f56
   have hil : i < res.length := by omega
   have hg : res[i]? = some res[i] := List.getElem?_eq_getElem hil
   generalize res[i] = r at hg
   obtain ⟨hri, hrr⟩ := hrep i r hg
   have hrl : r < res.length := by omega
   have h1 := ints_get hg
   have h2 := ints_get hrr
   have e1 := add1 (a := i) (by omega)
   have e2 : intOp .lss .i64 (i : Int) .i64 (res.length : Int) = some (.bool true) := by rw [ltN]; simp [hil]
   have e3 : intOp .gtr .i64 (r : Int) .i64 (i : Int) = some (.bool false) := by rw [gtN]; simp; omega
   have e4 : intOp .neq .i64 (r : Int) .i64 (r : Int) = some (.bool false) := by rw [neN]; simp
   rw [k5_32_l]
   simp (disch := first | assumption | decide | omega) [f3, f54, f55, f56, e1, e2, e3, e4, h1, h2]
   refine (ih (i + 1) _ _ (by omega) hil ?_ ?_ ?_ ?_).weak ?_
   ·simp [f3]
   ·simp [f54]
   ·simp [f55]
   ·simp
   ·rintro e f' ⟨rfl, q1, q2⟩
    refine ⟨rfl, ?_, q2⟩
    rw [q1]; simp
structure RelI (m : Nat) (av mv : V) (res : List Nat) (f : Nat → V) (nb : Nat) (g : Nat → Blk) : Prop where
 f1 : f 1 = .ptr 0 0
 f3 : f 3 = LV res
 nb : 0 < nb
 g0 : g 0 = .row 0 [nv m, av, mv]
set_option maxHeartbeats 2000000 in
theorem rel_loop1 {m : Nat} {av mv : V} {res : List Nat} {K : List Key} {o : Own} (hK : K.length < 100000) (hin : ∀ (j : Nat) (p : Key), K[j]? = some p → p.1 < res.length ∧ p.2 < res.length) (hmr : ∀ (j : Nat) (p : Key), K[j]? = some p → ∃ k : Nat, res[p.1]? = some k ∧ res[p.2]? = some k) :
 ∀ (k i : Nat) (f : Nat → V) (nb : Nat) (g : Nat → Blk) (d : List Nat), K.length - i = k → i ≤ K.length → RelI m av mv res f nb g → f 78 = .vs (prs K) K.length 2 o → f 79 = nv K.length → f 80 = nv i →
 AeEnds 200 (fun e f' nb' g' => e = .exit 2 ∧ RelI m av mv res f' nb' g') (C 5 k5_55 (S 200 f [] (mkH nb g d))) := by
 intro k
 induction k with
 | zero =>
   intro i f nb g d hk hi hI f78 f79 f80
   obtain ⟨f1, f3, hnb, g0⟩ := hI
   obtain rfl : i = K.length := by omega
   rw [k5_55_l]
   simp (disch := first | assumption | decide | omega) [f79, f80, ltN]
   refine AeEnds.mk ?_
   refine ⟨rfl, ?_, ?_, hnb, g0⟩
   ·simp [f1]
   ·simp [f3]
 | succ k ih =>
   intro i f nb g d hk hi hI f78 f79 f80
   obtain ⟨f1, f3, hnb, g0⟩ := hI
   have hil : i < K.length := by omega
   have hg : K[i]? = some K[i] := List.getElem?_eq_getElem hil
   generalize K[i] = p at hg
   obtain ⟨p1, p2⟩ := hin i p hg
   obtain ⟨r, r1, r2⟩ := hmr i p hg
   have h1 := ints_get r1
   have h2 := ints_get r2
   have h4 := prs_get hg
   have e1 := add1 (a := i) (by omega)
   have e2 : intOp .lss .i64 (i : Int) .i64 (K.length : Int) = some (.bool true) := by rw [ltN]; simp [hil]
   have e3 : intOp .geq .i64 ((max p.1 p.2 : Nat) : Int) .i64 (res.length : Int) = some (.bool false) := by rw [geN]; simp; omega
   have e4 : intOp .neq .i64 (r : Int) .i64 (r : Int) = some (.bool false) := by rw [neN]; simp
   have hne : ¬ 0 = nb := by omega
   have hlen : ∀ get nid, builtinV Tryz.prog false get nid .len [27] [LV res] = some { v := nv res.length } := len27 (.inr ⟨_, rfl⟩)
   rw [k5_55_l]
   simp (disch := first | assumption | decide | omega) [f3, f78, f79, f80, e1, e2, e3, e4, h1, h2, h4, hlen]
   have hki : K.length - (i + 1) = k := by omega
   have hnb' : 0 < nb + 1 := by omega
   refine (ih (i + 1) _ _ _ _ hki hil ⟨?_, ?_, hnb', ?_⟩ ?_ ?_ ?_).weak ?_
   ·simp [f1]
   ·simp [f3]
   ·simp (disch := first | assumption | decide | omega) [g0]
   ·simp [f78]
   ·simp [f79]
   ·simp
   ·rintro e f' nb' g' ⟨rfl, q⟩
    exact ⟨rfl, q⟩
end Go.Proofs.YtdlaladdeelegaaGreat.Cg
end
noncomputable section
namespace Go.Proofs.YtdlaladdeelegaaGreat.Cg
open Go Go.Ae
attribute [local simp] setF thenV_normal thenV_ret thenV_exit blockV_normal blockV_ret blockV_exit stepV_some stepV_drop skipS_S thenC_ret S_get S_h S_dfs apply_v apply_wr apply_nw apply_wn at1_if atB_same atB_ne n_mkH get_mkH set_mkB new_mkB wantB_bool wantB_undef condV_true condV_false valS binV_int binV_str intOp_add intOp_sub intOp_eql intOp_neq intOp_lss intOp_leq intOp_gtr intOp_geq strOp_eql strOp_neq xPick_bool xUn_not ext_0 ext_1 ext_2 ext_3 addrAdd_ptr xNilCheck_ptr build_C cells_agg cells_int cells_bool cells_str cells_ptr cells_vs xStore xLoad V.ones one_int one_bool one_str one_ptr one_nils one_vs resultVs_cons resultVs_nil resultV_tmp cellV_ptr resV_one resV_two resV_nil callOf_func callOf_yield callX_func thenC_noret stepD_vS stepD_rdS stepD_wrS stepD_nwS stepD_wvS okD_nil okD_rd okD_wr okD_bef max2 cond_true cond_false List.nil_append List.cons_append k5_ret k5_c k5_0_c k5_0_0 k5_0_1 k5_0_2 k5_1_c k5_2_c k5_4_c k5_4_0 k5_4_1 k5_4_2 k5_4_3 k5_4_4 k5_4_5 k5_4_6 k5_4_7 k5_4_8 k5_5_c k5_6_c k5_8_c k5_8_0 k5_8_1 k5_8_2 k5_9_c k5_7_c k5_3_c k5_10_c k5_10_0 k5_10_1 k5_10_2 k5_10_3 k5_10_4 k5_10_5 k5_10_6 k5_10_7 k5_10_8 k5_10_9 k5_10_10 k5_10_11 k5_10_12 k5_11_c k5_12_c k5_14_c k5_14_0 k5_14_1 k5_14_2 k5_15_c k5_16_c k5_18_c k5_18_0 k5_18_1 k5_18_2 k5_18_3 k5_18_4 k5_18_5 k5_18_6 k5_18_7 k5_19_c k5_17_c k5_13_c k5_20_c k5_22_c k5_22_0 k5_22_1 k5_22_2 k5_22_3 k5_22_4 k5_22_5 k5_22_6 k5_22_7 k5_22_8 k5_22_9 k5_22_10 k5_22_11 k5_22_12 k5_22_13 k5_22_14 k5_23_c k5_25_c k5_21_c k5_28_c k5_30_c k5_30_0 k5_30_1 k5_30_2 k5_30_3 k5_31_c k5_33_c k5_34_c k5_34_0 k5_34_1 k5_35_c k5_36_c k5_38_c k5_39_c k5_37_c k5_40_c k5_42_c k5_43_c k5_43_0 k5_43_1 k5_43_2 k5_43_3 k5_43_4 k5_43_5 k5_44_c k5_45_c k5_45_0 k5_45_1 k5_45_2 k5_45_3 k5_45_4 k5_45_5 k5_45_6 k5_45_7 k5_45_8 k5_45_9 k5_45_10 k5_45_11 k5_45_12 k5_45_13 k5_45_14 k5_45_15 k5_46_c k5_48_c k5_41_c k5_41_0 k5_41_1 k5_41_2 k5_29_c k5_51_c k5_53_c k5_53_0 k5_53_1 k5_53_2 k5_53_3 k5_53_4 k5_54_c k5_56_c k5_57_c k5_57_0 k5_57_1 k5_58_c k5_59_c k5_61_c k5_62_c k5_60_c k5_63_c k5_65_c k5_66_c k5_66_0 k5_66_1 k5_66_2 k5_66_3 k5_66_4 k5_67_c k5_68_c k5_68_0 k5_68_1 k5_68_2 k5_68_3 k5_68_4 k5_68_5 k5_68_6 k5_68_7 k5_68_8 k5_68_9 k5_68_10 k5_68_11 k5_68_12 k5_68_13 k5_68_14 k5_68_15 k5_68_16 k5_68_17 k5_68_18 k5_68_19 k5_68_20 k5_68_21 k5_68_22 k5_68_23 k5_68_24 k5_68_25 k5_68_26 k5_68_27 k5_68_28 k5_68_29 k5_69_c k5_71_c k5_64_c k5_64_0 k5_64_1 k5_64_2 k5_52_c k5_74_c k5_76_c k5_76_0 k5_76_1 k5_76_2 k5_76_3 k5_76_4 k5_77_c k5_79_c k5_80_c k5_80_0 k5_80_1 k5_81_c k5_82_c k5_84_c k5_85_c k5_83_c k5_86_c k5_88_c k5_89_c k5_89_0 k5_89_1 k5_89_2 k5_89_3 k5_89_4 k5_89_5 k5_89_6 k5_90_c k5_91_c k5_91_0 k5_91_1 k5_91_2 k5_91_3 k5_91_4 k5_91_5 k5_91_6 k5_92_c k5_94_c k5_95_c k5_95_0 k5_95_1 k5_96_c k5_97_c k5_99_c k5_100_c k5_98_c k5_101_c k5_103_c k5_104_c k5_104_0 k5_104_1 k5_104_2 k5_104_3 k5_104_4 k5_104_5 k5_104_6 k5_105_c k5_106_c k5_108_c k5_108_0 k5_108_1 k5_108_2 k5_108_3 k5_108_4 k5_108_5 k5_108_6 k5_108_7 k5_108_8 k5_108_9 k5_108_10 k5_108_11 k5_108_12 k5_108_13 k5_108_14 k5_108_15 k5_108_16 k5_108_17 k5_108_18 k5_108_19 k5_108_20 k5_108_21 k5_108_22 k5_108_23 k5_108_24 k5_109_c k5_111_c k5_107_c k5_114_c k5_114_0 k5_114_1 k5_114_2 k5_114_3 k5_114_4 k5_114_5 k5_114_6 k5_114_7 k5_114_8 k5_114_9 k5_114_10 k5_114_11 k5_114_12 k5_114_13 k5_114_14 k5_114_15 k5_114_16 k5_114_17 k5_114_18 k5_114_19 k5_114_20 k5_114_21 k5_114_22 k5_114_23 k5_114_24 k5_114_25 k5_114_26 k5_114_27 k5_114_28 k5_114_29 k5_114_30 k5_114_31 k5_114_32 k5_114_33 k5_114_34 k5_114_35 k5_114_36 k5_114_37 k5_114_38 k5_114_39 k5_114_40 k5_114_41 k5_115_c k5_117_c k5_102_c k5_102_0 k5_102_1 k5_102_2 k5_87_c k5_87_0 k5_87_1 k5_87_2 k5_75_c k5_120_c k5_120_0 k5_120_1 k5_120_2 k5_121_c
attribute [local simp] ld3 ld126 ld42 ld27 ld22 ix27v ix22v ix42_0 ix42_1 sz3 sz42 sz27 sp2 cells_nils callOf_func callX_func okD_nr okD_nn lt0
attribute [-simp] intOp_lss intOp_gtr intOp_add intOp_eql intOp_neq intOp_sub intOp_geq max2 k5_86_c k5_87_c
theorem minmaxN {mx : Bool} {a b : Nat} {l : List V} : minmax mx (nv a) (nv b :: l) = minmax mx (nv (if mx then max a b else min a b)) l := by
 show minmax mx (.int .i64 (if mx then (if (a : Int) < b then (b : Int) else a) else (if (b : Int) < a then (b : Int) else a))) l = _
 congr 2
 cases mx with
 | true =>
   simp only [if_true]
   by_cases h : a < b
   ·rw [if_pos (by omega)]; omega
   ·rw [if_neg (by omega)]; omega
 | false =>
   simp only [Bool.false_eq_true, if_false]
   by_cases h : b < a
   ·rw [if_pos (by omega)]; omega
   ·rw [if_neg (by omega)]; omega
theorem min4 {get : Nat → Blk} {nid : Nat} {ts : List TypeId} {a b c d : Nat} : builtinV Tryz.prog false get nid .min ts [nv a, nv b, nv c, nv d] = some { v := nv (min (min (min a b) c) d) } := by
 have : builtinV Tryz.prog false get nid .min ts [nv a, nv b, nv c, nv d] = val (minmax false (nv a) [nv b, nv c, nv d]) := rfl
 rw [this, minmaxN, minmaxN, minmaxN]; rfl
theorem max4 {get : Nat → Blk} {nid : Nat} {ts : List TypeId} {a b c d : Nat} : builtinV Tryz.prog false get nid .max ts [nv a, nv b, nv c, nv d] = some { v := nv (max (max (max a b) c) d) } := by
 have : builtinV Tryz.prog false get nid .max ts [nv a, nv b, nv c, nv d] = val (minmax true (nv a) [nv b, nv c, nv d]) := by cases ts <;> rfl
 rw [this, minmaxN, minmaxN, minmaxN]; rfl
attribute [local simp] min4 max4
theorem prs_take : ∀ (K : List Key) (i : Nat), (prs K).take (i * 2) = prs (K.take i)
 | [], i => by simp [prs]
 | a :: K, 0 => by simp [prs]
 | a :: K, i + 1 => by
   show (nv a.1 :: nv a.2 :: prs K).take ((i + 1) * 2) = nv a.1 :: nv a.2 :: prs (K.take i)
   rw [show (i + 1) * 2 = i * 2 + 1 + 1 by omega]
   simp only [List.take_succ_cons]
   rw [prs_take K i]
theorem slice22 {K : List Key} {o : Own} {i : Nat} (h : i < K.length) : sliceV Tryz.prog 22 (.vs (prs K) K.length 2 o) none (some (nv i)) none = some (.vs (prs (K.take i)) i 2 .lock) := by
 have h1 : sliceBds K.length K.length none (some (nv i)) none = some (0, i, K.length) := by
  have e : (0 : Int) ≤ (i : Int) ∧ (i : Int) ≤ ((K.length : Nat) : Int) := ⟨by omega, by omega⟩
  simp only [sliceBds, bd1, asI, Option.isSome_none, Bool.false_eq_true, if_false]
  rw [if_pos e]
  rfl
 have h2 : ¬ i = K.length := by omega
 simp only [sliceV, un22, sz42, ok42, h1]
 simp [h2, prs_take]
set_option maxHeartbeats 4000000 in
theorem rel_loop3 {m : Nat} {av mv : V} {res : List Nat} {K : List Key} {i tp : Nat} {p : Key} (hm : m ≤ 16) (hK : K.length ≤ 16) (hlen : res.length = m + K.length) (hin : ∀ (j : Nat) (p : Key), K[j]? = some p → p.1 < m + j ∧ p.2 < m + j) (hap : ∀ (i j : Nat) (p q : Key) (x y : Nat), K[i]? = some p → K[j]? = some q → res[p.1]? = some x → res[q.1]? = some x → res[p.2]? = some y → res[q.2]? = some y → ∃ k : Nat, res[m + i]? = some k ∧ res[m + j]? = some k) (hp : K[i]? = some p) (htp : 0 < tp) :
 ∀ (k j : Nat) (f : Nat → V) (nb : Nat) (g : Nat → Blk) (d : List Nat), i - j = k → j ≤ i → RelI m av mv res f nb g → tp < nb → g tp = .row 0 [nv p.1, nv p.2] → f 9 = nv i → f 10 = .ptr tp 0 → f 125 = .vs (prs (K.take i)) i 2 .lock → f 126 = nv i → f 127 = nv j →
 AeEnds 200 (fun e f' nb' g' => e = .exit 6 ∧ RelI m av mv res f' nb' g' ∧ f' 115 = f 115 ∧ f' 116 = f 116 ∧ f' 117 = f 117) (C 5 k5_93 (S 200 f [] (mkH nb g d))) := by
 intro k
 induction k with
 | zero =>
   intro j f nb g d hk hi hI htn gtp f9 f10 f125 f126 f127
   obtain ⟨f1, f3, hnb, g0⟩ := hI
   obtain rfl : j = i := by omega
   have e2 : intOp .lss .i64 (j : Int) .i64 (j : Int) = some (.bool false) := by rw [ltN]; simp
   rw [k5_93_l]
   simp (disch := first | assumption | decide | omega) [f126, f127, e2]
   refine AeEnds.mk ?_
   refine ⟨rfl, ⟨?_, ?_, hnb, g0⟩, ?_, ?_, ?_⟩
   ·simp [f1]
   ·simp [f3]
   ·simp
   ·simp
   ·simp
 | succ k ih =>
   intro j f nb g d hk hi hI htn gtp f9 f10 f125 f126 f127
   obtain ⟨f1, f3, hnb, g0⟩ := hI
   have hji : j < i := by omega
   have hiK := (List.getElem?_eq_some_iff.1 hp).1
   have hjK : j < K.length := by omega
   have hg : K[j]? = some K[j] := List.getElem?_eq_getElem hjK
   generalize K[j] = q at hg
   have hg' : (K.take i)[j]? = some q := by rw [List.getElem?_take_of_lt hji]; exact hg
   obtain ⟨p1, p2⟩ := hin i p hp
   obtain ⟨q1, q2⟩ := hin j q hg
   have b1 : p.1 < res.length := by omega
   have b2 : p.2 < res.length := by omega
   have b3 : q.1 < res.length := by omega
   have b4 : q.2 < res.length := by omega
   have b5 : m + i < res.length := by omega
   have b6 : m + j < res.length := by omega
   have r1 : res[p.1]? = some res[p.1] := List.getElem?_eq_getElem b1
   have r2 : res[p.2]? = some res[p.2] := List.getElem?_eq_getElem b2
   have r3 : res[q.1]? = some res[q.1] := List.getElem?_eq_getElem b3
   have r4 : res[q.2]? = some res[q.2] := List.getElem?_eq_getElem b4
   have r5 : res[m + i]? = some res[m + i] := List.getElem?_eq_getElem b5
   have r6 : res[m + j]? = some res[m + j] := List.getElem?_eq_getElem b6
   generalize res[p.1] = x1 at r1
   generalize res[p.2] = x2 at r2
   generalize res[q.1] = y1 at r3
   generalize res[q.2] = y2 at r4
   generalize res[m + i] = z1 at r5
   generalize res[m + j] = z2 at r6
   have h1 := ints_get r1
   have h2 := ints_get r2
   have h3 := ints_get r3
   have h4 := ints_get r4
   have h5 := ints_get r5
   have h6 := ints_get r6
   have hq := prs_get hg'
   have e1 := add1 (a := j) (by omega)
   have e2 : intOp .lss .i64 (j : Int) .i64 (i : Int) = some (.bool true) := by rw [ltN]; simp [hji]
   have e3 : intOp .geq .i64 ((max p.1 (max p.2 (max q.1 q.2)) : Nat) : Int) .i64 (res.length : Int) = some (.bool false) := by rw [geN]; simp; omega
   have a1 : intOp .add .i64 (m : Int) .i64 (i : Int) = some (nv (m + i)) := addN (by omega)
   have a2 : intOp .add .i64 (m : Int) .i64 (j : Int) = some (nv (m + j)) := addN (by omega)
   have hlen' : ∀ get nid, builtinV Tryz.prog false get nid .len [27] [LV res] = some { v := nv res.length } := len27 (.inr ⟨_, rfl⟩)
   have hne : ¬ 0 = nb := by omega
   have hne2 : ¬ tp = nb := by omega
   have hne3 : ¬ nb = tp := by omega
   have hne4 : ¬ nb = 0 := by omega
   have hki : i - (j + 1) = k := by omega
   have hnb' : 0 < nb + 1 := by omega
   have htn' : tp < nb + 1 := by omega
   rw [k5_93_l]
   by_cases c1 : x1 = y1
   ·have w1 : intOp .eql .i64 (x1 : Int) .i64 (y1 : Int) = some (.bool true) := by rw [eqN]; simp [c1]
    by_cases c2 : x2 = y2
    ·have w2 : intOp .eql .i64 (x2 : Int) .i64 (y2 : Int) = some (.bool true) := by rw [eqN]; simp [c2]
     obtain ⟨z, u1, u2⟩ := hap i j p q x1 x2 hp hg r1 (by rw [c1]; exact r3) r2 (by rw [c2]; exact r4)
     have w3 : intOp .neq .i64 (z1 : Int) .i64 (z2 : Int) = some (.bool false) := by
      rw [r5] at u1; rw [r6] at u2; cases u1; cases u2
      rw [neN]; simp
     simp (disch := first | assumption | decide | omega) [f1, f3, f9, f10, f125, f126, f127, g0, gtp, e1, e2, e3, hlen', h1, h2, h3, h4, h5, h6, hq, a1, a2, w1, w2, w3]
     refine (ih (j + 1) _ _ _ _ hki hji ⟨?_, ?_, hnb', ?_⟩ htn' ?_ ?_ ?_ ?_ ?_ ?_).weak ?_
     ·simp [f1]
     ·simp [f3]
     ·simp (disch := first | assumption | decide | omega) [g0]
     ·simp (disch := first | assumption | decide | omega) [gtp]
     ·simp [f9]
     ·simp [f10]
     ·simp [f125]
     ·simp [f126]
     ·simp
     ·rintro e f' nb' g' ⟨rfl, q0, q1, q2, q3⟩
      refine ⟨rfl, q0, ?_, ?_, ?_⟩
      ·rw [q1]; simp
      ·rw [q2]; simp
      ·rw [q3]; simp
    ·have w2 : intOp .eql .i64 (x2 : Int) .i64 (y2 : Int) = some (.bool false) := by rw [eqN]; simp [c2]
     simp (disch := first | assumption | decide | omega) [f1, f3, f9, f10, f125, f126, f127, g0, gtp, e1, e2, e3, hlen', h1, h2, h3, h4, h5, h6, hq, a1, a2, w1, w2]
     refine (ih (j + 1) _ _ _ _ hki hji ⟨?_, ?_, hnb', ?_⟩ htn' ?_ ?_ ?_ ?_ ?_ ?_).weak ?_
     ·simp [f1]
     ·simp [f3]
     ·simp (disch := first | assumption | decide | omega) [g0]
     ·simp (disch := first | assumption | decide | omega) [gtp]
     ·simp [f9]
     ·simp [f10]
     ·simp [f125]
     ·simp [f126]
     ·simp
     ·rintro e f' nb' g' ⟨rfl, q0, q1, q2, q3⟩
      refine ⟨rfl, q0, ?_, ?_, ?_⟩
      ·rw [q1]; simp
      ·rw [q2]; simp
      ·rw [q3]; simp
   ·have w1 : intOp .eql .i64 (x1 : Int) .i64 (y1 : Int) = some (.bool false) := by rw [eqN]; simp [c1]
    simp (disch := first | assumption | decide | omega) [f1, f3, f9, f10, f125, f126, f127, g0, gtp, e1, e2, e3, hlen', h1, h2, h3, h4, h5, h6, hq, a1, a2, w1]
    refine (ih (j + 1) _ _ _ _ hki hji ⟨?_, ?_, hnb', ?_⟩ htn' ?_ ?_ ?_ ?_ ?_ ?_).weak ?_
    ·simp [f1]
    ·simp [f3]
    ·simp (disch := first | assumption | decide | omega) [g0]
    ·simp (disch := first | assumption | decide | omega) [gtp]
    ·simp [f9]
    ·simp [f10]
    ·simp [f125]
    ·simp [f126]
    ·simp
    ·rintro e f' nb' g' ⟨rfl, q0, q1, q2, q3⟩
     refine ⟨rfl, q0, ?_, ?_, ?_⟩
     ·rw [q1]; simp
     ·rw [q2]; simp
     ·rw [q3]; simp
end Go.Proofs.YtdlaladdeelegaaGreat.Cg
end
noncomputable section
namespace Go.Proofs.YtdlaladdeelegaaGreat.Cg
open Go Go.Ae
attribute [local simp] setF thenV_normal thenV_ret thenV_exit blockV_normal blockV_ret blockV_exit stepV_some stepV_drop skipS_S thenC_ret S_get S_h S_dfs apply_v apply_wr apply_nw apply_wn at1_if atB_same atB_ne n_mkH get_mkH set_mkB new_mkB wantB_bool wantB_undef condV_true condV_false valS binV_int binV_str intOp_add intOp_sub intOp_eql intOp_neq intOp_lss intOp_leq intOp_gtr intOp_geq strOp_eql strOp_neq xPick_bool xUn_not ext_0 ext_1 ext_2 ext_3 addrAdd_ptr xNilCheck_ptr build_C cells_agg cells_int cells_bool cells_str cells_ptr cells_vs xStore xLoad V.ones one_int one_bool one_str one_ptr one_nils one_vs resultVs_cons resultVs_nil resultV_tmp cellV_ptr resV_one resV_two resV_nil callOf_func callOf_yield callX_func thenC_noret stepD_vS stepD_rdS stepD_wrS stepD_nwS stepD_wvS okD_nil okD_rd okD_wr okD_bef max2 cond_true cond_false List.nil_append List.cons_append k5_ret k5_c k5_0_c k5_0_0 k5_0_1 k5_0_2 k5_1_c k5_2_c k5_4_c k5_4_0 k5_4_1 k5_4_2 k5_4_3 k5_4_4 k5_4_5 k5_4_6 k5_4_7 k5_4_8 k5_5_c k5_6_c k5_8_c k5_8_0 k5_8_1 k5_8_2 k5_9_c k5_7_c k5_3_c k5_10_c k5_10_0 k5_10_1 k5_10_2 k5_10_3 k5_10_4 k5_10_5 k5_10_6 k5_10_7 k5_10_8 k5_10_9 k5_10_10 k5_10_11 k5_10_12 k5_11_c k5_12_c k5_14_c k5_14_0 k5_14_1 k5_14_2 k5_15_c k5_16_c k5_18_c k5_18_0 k5_18_1 k5_18_2 k5_18_3 k5_18_4 k5_18_5 k5_18_6 k5_18_7 k5_19_c k5_17_c k5_13_c k5_20_c k5_22_c k5_22_0 k5_22_1 k5_22_2 k5_22_3 k5_22_4 k5_22_5 k5_22_6 k5_22_7 k5_22_8 k5_22_9 k5_22_10 k5_22_11 k5_22_12 k5_22_13 k5_22_14 k5_23_c k5_25_c k5_21_c k5_28_c k5_30_c k5_30_0 k5_30_1 k5_30_2 k5_30_3 k5_31_c k5_33_c k5_34_c k5_34_0 k5_34_1 k5_35_c k5_36_c k5_38_c k5_39_c k5_37_c k5_40_c k5_42_c k5_43_c k5_43_0 k5_43_1 k5_43_2 k5_43_3 k5_43_4 k5_43_5 k5_44_c k5_45_c k5_45_0 k5_45_1 k5_45_2 k5_45_3 k5_45_4 k5_45_5 k5_45_6 k5_45_7 k5_45_8 k5_45_9 k5_45_10 k5_45_11 k5_45_12 k5_45_13 k5_45_14 k5_45_15 k5_46_c k5_48_c k5_41_c k5_41_0 k5_41_1 k5_41_2 k5_29_c k5_51_c k5_53_c k5_53_0 k5_53_1 k5_53_2 k5_53_3 k5_53_4 k5_54_c k5_56_c k5_57_c k5_57_0 k5_57_1 k5_58_c k5_59_c k5_61_c k5_62_c k5_60_c k5_63_c k5_65_c k5_66_c k5_66_0 k5_66_1 k5_66_2 k5_66_3 k5_66_4 k5_67_c k5_68_c k5_68_0 k5_68_1 k5_68_2 k5_68_3 k5_68_4 k5_68_5 k5_68_6 k5_68_7 k5_68_8 k5_68_9 k5_68_10 k5_68_11 k5_68_12 k5_68_13 k5_68_14 k5_68_15 k5_68_16 k5_68_17 k5_68_18 k5_68_19 k5_68_20 k5_68_21 k5_68_22 k5_68_23 k5_68_24 k5_68_25 k5_68_26 k5_68_27 k5_68_28 k5_68_29 k5_69_c k5_71_c k5_64_c k5_64_0 k5_64_1 k5_64_2 k5_52_c k5_74_c k5_76_c k5_76_0 k5_76_1 k5_76_2 k5_76_3 k5_76_4 k5_77_c k5_79_c k5_80_c k5_80_0 k5_80_1 k5_81_c k5_82_c k5_84_c k5_85_c k5_83_c k5_86_c k5_88_c k5_89_c k5_89_0 k5_89_1 k5_89_2 k5_89_3 k5_89_4 k5_89_5 k5_89_6 k5_90_c k5_91_c k5_91_0 k5_91_1 k5_91_2 k5_91_3 k5_91_4 k5_91_5 k5_91_6 k5_92_c k5_94_c k5_95_c k5_95_0 k5_95_1 k5_96_c k5_97_c k5_99_c k5_100_c k5_98_c k5_101_c k5_103_c k5_104_c k5_104_0 k5_104_1 k5_104_2 k5_104_3 k5_104_4 k5_104_5 k5_104_6 k5_105_c k5_106_c k5_108_c k5_108_0 k5_108_1 k5_108_2 k5_108_3 k5_108_4 k5_108_5 k5_108_6 k5_108_7 k5_108_8 k5_108_9 k5_108_10 k5_108_11 k5_108_12 k5_108_13 k5_108_14 k5_108_15 k5_108_16 k5_108_17 k5_108_18 k5_108_19 k5_108_20 k5_108_21 k5_108_22 k5_108_23 k5_108_24 k5_109_c k5_111_c k5_107_c k5_114_c k5_114_0 k5_114_1 k5_114_2 k5_114_3 k5_114_4 k5_114_5 k5_114_6 k5_114_7 k5_114_8 k5_114_9 k5_114_10 k5_114_11 k5_114_12 k5_114_13 k5_114_14 k5_114_15 k5_114_16 k5_114_17 k5_114_18 k5_114_19 k5_114_20 k5_114_21 k5_114_22 k5_114_23 k5_114_24 k5_114_25 k5_114_26 k5_114_27 k5_114_28 k5_114_29 k5_114_30 k5_114_31 k5_114_32 k5_114_33 k5_114_34 k5_114_35 k5_114_36 k5_114_37 k5_114_38 k5_114_39 k5_114_40 k5_114_41 k5_115_c k5_117_c k5_102_c k5_102_0 k5_102_1 k5_102_2 k5_87_c k5_87_0 k5_87_1 k5_87_2 k5_75_c k5_120_c k5_120_0 k5_120_1 k5_120_2 k5_121_c
attribute [local simp] ld3 ld126 ld42 ld27 ld22 ix27v ix22v ix42_0 ix42_1 sz3 sz42 sz27 sp2 cells_nils callOf_func callX_func okD_nr okD_nn lt0
attribute [-simp] intOp_lss intOp_gtr intOp_add intOp_eql intOp_neq intOp_sub intOp_geq max2 k5_86_c k5_87_c k5_91_c k5_92_c k5_89_c k5_1_c k5_3_c k5_13_c k5_21_c k5_29_c k5_52_c k5_75_c k5_31_c k5_54_c k5_77_c k5_12_c k5_11_c
theorem awake_call (h : H) : callS Tryz.prog hs ks 8 [] h = some [(.ret (.bool true), h)] := callS_known (args' := []) rfl rfl (by show (if (8 : Nat) = 8 ∧ ([] : List V) = [] then some (V.bool true) else none) = _; rw [if_pos ⟨rfl, rfl⟩]) h
set_option maxHeartbeats 4000000 in
theorem rel_loop2 {m : Nat} {mv : V} {res : List Nat} {K : List Key} {o : Own} (hm : m ≤ 16) (hK : K.length ≤ 16) (hlen : res.length = m + K.length) (hin : ∀ (j : Nat) (p : Key), K[j]? = some p → p.1 < m + j ∧ p.2 < m + j) (hap : ∀ (i j : Nat) (p q : Key) (x y : Nat), K[i]? = some p → K[j]? = some q → res[p.1]? = some x → res[q.1]? = some x → res[p.2]? = some y → res[q.2]? = some y → ∃ k : Nat, res[m + i]? = some k ∧ res[m + j]? = some k) :
 ∀ (k i : Nat) (f : Nat → V) (nb : Nat) (g : Nat → Blk) (d : List Nat), K.length - i = k → i ≤ K.length → RelI m (.vs (prs K) K.length 2 o) mv res f nb g → f 115 = .vs (prs K) K.length 2 o → f 116 = nv K.length → f 117 = nv i →
 AeEnds 200 (fun e f' nb' g' => e = .exit 4 ∧ RelI m (.vs (prs K) K.length 2 o) mv res f' nb' g') (C 5 k5_78 (S 200 f [] (mkH nb g d))) := by
 intro k
 induction k with
 | zero =>
   intro i f nb g d hk hi hI f115 f116 f117
   obtain ⟨f1, f3, hnb, g0⟩ := hI
   obtain rfl : i = K.length := by omega
   have e2 : intOp .lss .i64 (K.length : Int) .i64 (K.length : Int) = some (.bool false) := by rw [ltN]; simp
   rw [k5_78_l]
   simp (disch := first | assumption | decide | omega) [f116, f117, e2]
   refine AeEnds.mk ?_
   refine ⟨rfl, ?_, ?_, hnb, g0⟩
   ·simp [f1]
   ·simp [f3]
 | succ k ih =>
   intro i f nb g d hk hi hI f115 f116 f117
   obtain ⟨f1, f3, hnb, g0⟩ := hI
   have hil : i < K.length := by omega
   have hg : K[i]? = some K[i] := List.getElem?_eq_getElem hil
   generalize K[i] = p at hg
   have h4 := prs_get hg
   have e1 := add1 (a := i) (by omega)
   have e2 : intOp .lss .i64 (i : Int) .i64 (K.length : Int) = some (.bool true) := by rw [ltN]; simp [hil]
   have hne : ¬ 0 = nb := by omega
   have hne4 : ¬ nb = 0 := by omega
   have hki : K.length - (i + 1) = k := by omega
   have hnb' : 0 < nb + 1 := by omega
   rw [k5_78_l]
   simp (disch := first | assumption | decide | omega) [f116, f117, e2]
   refine AeEnds.seq (P := fun f' nb' g' => RelI m (.vs (prs K) K.length 2 o) mv res f' nb' g' ∧ f' 115 = .vs (prs K) K.length 2 o ∧ f' 116 = nv K.length ∧ f' 117 = nv (i + 1)) ?_ ?_
   ·refine AeEnds.seq (P := fun f' nb' g' => RelI m (.vs (prs K) K.length 2 o) mv res f' nb' g' ∧ f' 115 = .vs (prs K) K.length 2 o ∧ f' 116 = nv K.length ∧ f' 117 = nv i) ?_ ?_
    ·rw [k5_86_c]
     refine AeEnds.block (id := 5) (Q := fun e f' nb' g' => e = .normal ∧ RelI m (.vs (prs K) K.length 2 o) mv res f' nb' g' ∧ f' 115 = .vs (prs K) K.length 2 o ∧ f' 116 = nv K.length ∧ f' 117 = nv i) ?_ ?_ ?_
     ·rw [k5_88_c]
      refine AeEnds.seq (P := fun f' nb' g' => RelI m (.vs (prs K) K.length 2 o) mv res f' nb' g' ∧ nb' = nb + 1 ∧ g' nb = .row 0 [nv p.1, nv p.2] ∧ f' 9 = nv i ∧ f' 10 = .ptr nb 0 ∧ f' 115 = .vs (prs K) K.length 2 o ∧ f' 116 = nv K.length ∧ f' 117 = nv i) ?_ ?_
      ·rw [k5_89_c]
       simp (disch := first | assumption | decide | omega) [f115, f117, h4]
       refine AeEnds.mk ?_
       refine ⟨rfl, ⟨?_, ?_, hnb', ?_⟩, rfl, ?_, ?_, ?_, ?_, ?_, ?_⟩
       ·simp [f1]
       ·simp [f3]
       ·simp (disch := first | assumption | decide | omega) [g0]
       ·simp
       ·simp
       ·simp
       ·simp [f115]
       ·simp [f116]
       ·simp [f117]
      ·rintro f1' nb1 g1 d1 ⟨⟨i1, i3, inb, ig⟩, rfl, gt, x9, x10, x115, x116, x117⟩
       rw [k5_90_c]
       have hsl := slice22 (K := K) (o := o) hil
       have hl22 : ∀ get nid, builtinV Tryz.prog false get nid .len [22] [.vs (prs (K.take i)) i 2 .lock] = some { v := nv i } := fun get nid => by simp [builtinV, lenV, un22]
       refine AeEnds.seq (P := fun f' nb' g' => RelI m (.vs (prs K) K.length 2 o) mv res f' nb' g' ∧ nb' = nb + 1 ∧ g' nb = .row 0 [nv p.1, nv p.2] ∧ f' 9 = nv i ∧ f' 10 = .ptr nb 0 ∧ f' 115 = .vs (prs K) K.length 2 o ∧ f' 116 = nv K.length ∧ f' 117 = nv i ∧ f' 125 = .vs (prs (K.take i)) i 2 .lock ∧ f' 126 = nv i ∧ f' 127 = nv 0) ?_ ?_
       ·rw [k5_91_c]
        simp (disch := first | assumption | decide | omega) [i1, ig, x9, hsl, hl22]
        refine AeEnds.mk ?_
        refine ⟨rfl, ⟨?_, ?_, inb, ig⟩, rfl, gt, ?_, ?_, ?_, ?_, ?_, ?_, ?_, ?_⟩
        ·simp [i1]
        ·simp [i3]
        ·simp [x9]
        ·simp [x10]
        ·simp [x115]
        ·simp [x116]
        ·simp [x117]
        ·simp
        ·simp
        ·simp
       ·rintro f2 nb2 g2 d2 ⟨hI2, rfl, gt2, y9, y10, y115, y116, y117, y125, y126, y127⟩
        rw [k5_92_c]
        refine AeEnds.block (rel_loop3 hm hK hlen hin hap hg hnb i 0 f2 (nb + 1) g2 d2 rfl (Nat.zero_le _) hI2 (Nat.lt_succ_self nb) gt2 y9 y10 y125 y126 y127) ?_ ?_
        ·rintro f3' nb3 g3 ⟨_, z1, z2, z3, z4⟩
         exact ⟨rfl, z1, by rw [z2, y115], by rw [z3, y116], by rw [z4, y117]⟩
        ·rintro e f3' nb3 g3 hne ⟨rfl, _⟩; exact absurd rfl hne
     ·rintro f3' nb3 g3 ⟨h, _⟩; cases h
     ·rintro e f3' nb3 g3 hne h; exact h
    ·rintro f1' nb1 g1 d1 ⟨⟨i1, i3, inb, ig⟩, x115, x116, x117⟩
     rw [k5_87_c]
     simp (disch := first | assumption | decide | omega) [x117, e1]
     refine AeEnds.mk ?_
     refine ⟨rfl, ⟨?_, ?_, inb, ig⟩, ?_, ?_, ?_⟩
     ·simp [i1]
     ·simp [i3]
     ·simp [x115]
     ·simp [x116]
     ·simp
   ·rintro f1' nb1 g1 d1 ⟨hI1, x115, x116, x117⟩
    exact ih (i + 1) f1' nb1 g1 d1 hki hil hI1 x115 x116 x117
end Go.Proofs.YtdlaladdeelegaaGreat.Cg
end
noncomputable section
namespace Go.Proofs.YtdlaladdeelegaaGreat.Cg
open Go Go.Ae
attribute [local simp] setF thenV_normal thenV_ret thenV_exit blockV_normal blockV_ret blockV_exit stepV_some stepV_drop skipS_S thenC_ret S_get S_h S_dfs apply_v apply_wr apply_nw apply_wn at1_if atB_same atB_ne n_mkH get_mkH set_mkB new_mkB wantB_bool wantB_undef condV_true condV_false valS binV_int binV_str intOp_add intOp_sub intOp_eql intOp_neq intOp_lss intOp_leq intOp_gtr intOp_geq strOp_eql strOp_neq xPick_bool xUn_not ext_0 ext_1 ext_2 ext_3 addrAdd_ptr xNilCheck_ptr build_C cells_agg cells_int cells_bool cells_str cells_ptr cells_vs xStore xLoad V.ones one_int one_bool one_str one_ptr one_nils one_vs resultVs_cons resultVs_nil resultV_tmp cellV_ptr resV_one resV_two resV_nil callOf_func callOf_yield callX_func thenC_noret stepD_vS stepD_rdS stepD_wrS stepD_nwS stepD_wvS okD_nil okD_rd okD_wr okD_bef max2 cond_true cond_false List.nil_append List.cons_append k5_ret k5_c k5_0_c k5_0_0 k5_0_1 k5_0_2 k5_1_c k5_2_c k5_4_c k5_4_0 k5_4_1 k5_4_2 k5_4_3 k5_4_4 k5_4_5 k5_4_6 k5_4_7 k5_4_8 k5_5_c k5_6_c k5_8_c k5_8_0 k5_8_1 k5_8_2 k5_9_c k5_7_c k5_3_c k5_10_c k5_10_0 k5_10_1 k5_10_2 k5_10_3 k5_10_4 k5_10_5 k5_10_6 k5_10_7 k5_10_8 k5_10_9 k5_10_10 k5_10_11 k5_10_12 k5_11_c k5_12_c k5_14_c k5_14_0 k5_14_1 k5_14_2 k5_15_c k5_16_c k5_18_c k5_18_0 k5_18_1 k5_18_2 k5_18_3 k5_18_4 k5_18_5 k5_18_6 k5_18_7 k5_19_c k5_17_c k5_13_c k5_20_c k5_22_c k5_22_0 k5_22_1 k5_22_2 k5_22_3 k5_22_4 k5_22_5 k5_22_6 k5_22_7 k5_22_8 k5_22_9 k5_22_10 k5_22_11 k5_22_12 k5_22_13 k5_22_14 k5_23_c k5_25_c k5_21_c k5_28_c k5_30_c k5_30_0 k5_30_1 k5_30_2 k5_30_3 k5_31_c k5_33_c k5_34_c k5_34_0 k5_34_1 k5_35_c k5_36_c k5_38_c k5_39_c k5_37_c k5_40_c k5_42_c k5_43_c k5_43_0 k5_43_1 k5_43_2 k5_43_3 k5_43_4 k5_43_5 k5_44_c k5_45_c k5_45_0 k5_45_1 k5_45_2 k5_45_3 k5_45_4 k5_45_5 k5_45_6 k5_45_7 k5_45_8 k5_45_9 k5_45_10 k5_45_11 k5_45_12 k5_45_13 k5_45_14 k5_45_15 k5_46_c k5_48_c k5_41_c k5_41_0 k5_41_1 k5_41_2 k5_29_c k5_51_c k5_53_c k5_53_0 k5_53_1 k5_53_2 k5_53_3 k5_53_4 k5_54_c k5_56_c k5_57_c k5_57_0 k5_57_1 k5_58_c k5_59_c k5_61_c k5_62_c k5_60_c k5_63_c k5_65_c k5_66_c k5_66_0 k5_66_1 k5_66_2 k5_66_3 k5_66_4 k5_67_c k5_68_c k5_68_0 k5_68_1 k5_68_2 k5_68_3 k5_68_4 k5_68_5 k5_68_6 k5_68_7 k5_68_8 k5_68_9 k5_68_10 k5_68_11 k5_68_12 k5_68_13 k5_68_14 k5_68_15 k5_68_16 k5_68_17 k5_68_18 k5_68_19 k5_68_20 k5_68_21 k5_68_22 k5_68_23 k5_68_24 k5_68_25 k5_68_26 k5_68_27 k5_68_28 k5_68_29 k5_69_c k5_71_c k5_64_c k5_64_0 k5_64_1 k5_64_2 k5_52_c k5_74_c k5_76_c k5_76_0 k5_76_1 k5_76_2 k5_76_3 k5_76_4 k5_77_c k5_79_c k5_80_c k5_80_0 k5_80_1 k5_81_c k5_82_c k5_84_c k5_85_c k5_83_c k5_86_c k5_88_c k5_89_c k5_89_0 k5_89_1 k5_89_2 k5_89_3 k5_89_4 k5_89_5 k5_89_6 k5_90_c k5_91_c k5_91_0 k5_91_1 k5_91_2 k5_91_3 k5_91_4 k5_91_5 k5_91_6 k5_92_c k5_94_c k5_95_c k5_95_0 k5_95_1 k5_96_c k5_97_c k5_99_c k5_100_c k5_98_c k5_101_c k5_103_c k5_104_c k5_104_0 k5_104_1 k5_104_2 k5_104_3 k5_104_4 k5_104_5 k5_104_6 k5_105_c k5_106_c k5_108_c k5_108_0 k5_108_1 k5_108_2 k5_108_3 k5_108_4 k5_108_5 k5_108_6 k5_108_7 k5_108_8 k5_108_9 k5_108_10 k5_108_11 k5_108_12 k5_108_13 k5_108_14 k5_108_15 k5_108_16 k5_108_17 k5_108_18 k5_108_19 k5_108_20 k5_108_21 k5_108_22 k5_108_23 k5_108_24 k5_109_c k5_111_c k5_107_c k5_114_c k5_114_0 k5_114_1 k5_114_2 k5_114_3 k5_114_4 k5_114_5 k5_114_6 k5_114_7 k5_114_8 k5_114_9 k5_114_10 k5_114_11 k5_114_12 k5_114_13 k5_114_14 k5_114_15 k5_114_16 k5_114_17 k5_114_18 k5_114_19 k5_114_20 k5_114_21 k5_114_22 k5_114_23 k5_114_24 k5_114_25 k5_114_26 k5_114_27 k5_114_28 k5_114_29 k5_114_30 k5_114_31 k5_114_32 k5_114_33 k5_114_34 k5_114_35 k5_114_36 k5_114_37 k5_114_38 k5_114_39 k5_114_40 k5_114_41 k5_115_c k5_117_c k5_102_c k5_102_0 k5_102_1 k5_102_2 k5_87_c k5_87_0 k5_87_1 k5_87_2 k5_75_c k5_120_c k5_120_0 k5_120_1 k5_120_2 k5_121_c
attribute [local simp] ld3 ld126 ld42 ld27 ld22 ix27v ix22v ix42_0 ix42_1 sz3 sz42 sz27 sp2 cells_nils callOf_func callX_func okD_nr okD_nn lt0
attribute [-simp] intOp_lss intOp_gtr intOp_add intOp_eql intOp_neq intOp_sub intOp_geq max2 k5_1_c k5_3_c k5_13_c k5_21_c k5_29_c k5_52_c k5_75_c k5_31_c k5_54_c k5_77_c k5_12_c k5_11_c k5_2_c k5_20_c k5_28_c k5_51_c k5_74_c k5_0_c k5_120_c k5_121_c
theorem rel_nil1 {m : Nat} {av mv : V} {res : List Nat} {f : Nat → V} {nb : Nat} {g : Nat → Blk} {d : List Nat} (hI : RelI m av mv res f nb g) (f79 : f 79 = nv 0) (f80 : f 80 = nv 0) :
 AeEnds 200 (fun e f' nb' g' => e = .exit 2 ∧ RelI m av mv res f' nb' g') (C 5 k5_55 (S 200 f [] (mkH nb g d))) := by
 obtain ⟨f1, f3, hnb, g0⟩ := hI
 have e2 : intOp .lss .i64 0 .i64 0 = some (.bool false) := rfl
 rw [k5_55_l]
 simp (disch := first | assumption | decide | omega) [f79, f80, e2]
 refine AeEnds.mk ?_
 exact ⟨rfl, by simp [f1], by simp [f3], hnb, g0⟩
theorem rel_nil2 {m : Nat} {av mv : V} {res : List Nat} {f : Nat → V} {nb : Nat} {g : Nat → Blk} {d : List Nat} (hI : RelI m av mv res f nb g) (f116 : f 116 = nv 0) (f117 : f 117 = nv 0) :
 AeEnds 200 (fun e f' nb' g' => e = .exit 4 ∧ RelI m av mv res f' nb' g') (C 5 k5_78 (S 200 f [] (mkH nb g d))) := by
 obtain ⟨f1, f3, hnb, g0⟩ := hI
 have e2 : intOp .lss .i64 0 .i64 0 = some (.bool false) := rfl
 rw [k5_78_l]
 simp (disch := first | assumption | decide | omega) [f116, f117, e2]
 refine AeEnds.mk ?_
 exact ⟨rfl, by simp [f1], by simp [f3], hnb, g0⟩
theorem rel_good {m : Nat} {la lm : List PrI} {av mv : V} {res : List Nat} (hm : m ≤ 16) (hA : InS av la) (hM : InS mv lm) (hLa : la.length ≤ 16) (hLm : lm.length ≤ 16) (hchk : chkR m la lm = 0) (hr : LeastC m (toK la) (toK lm) (fun _ => true) res) {f : Nat → V} {nb : Nat} {g : Nat → Blk} {d : List Nat} (hI : RelI m av mv res f nb g) :
 AeEnds 200 (fun e f' _ _ => e = .ret ∧ f' 2 = .bool true) (C 5 k5_13 (S 200 f [] (mkH nb g d))) := by
 have hP := right_of hchk
 have hok : appsOk m la 0 = true ∧ mrgOk (m + la.length) lm = true := by
  unfold chkR at hchk
  rw [if_neg (by omega)] at hchk
  split at hchk
  ·assumption
  ·cases hchk
 have ea := prs_toK (apps_nonneg hok.1)
 have em := prs_toK (mrg_nonneg hok.2)
 have hlen := hr.len
 have hlenA := len22 hA
 have hlenM := len22 hM
 have kl : (toK la).length = la.length := toK_len la
 have klm : (toK lm).length = lm.length := toK_len lm
 have hl27 : ∀ get nid, builtinV Tryz.prog false get nid .len [27] [LV res] = some { v := nv res.length } := len27 (.inr ⟨_, rfl⟩)
 have a1 : intOp .add .i64 (m : Int) .i64 (la.length : Int) = some (nv (m + la.length)) := addN (by omega)
 have a2 : intOp .neq .i64 (res.length : Int) .i64 ((m : Int) + (la.length : Int)) = some (.bool false) := by rw [← Int.natCast_add, neN]; simp; omega
 rw [k5_13_c]
 refine AeEnds.seq (P := fun f' nb' g' => RelI m av mv res f' nb' g') ?_ ?_
 ·obtain ⟨f1, f3, hnb, g0⟩ := hI
  rw [k5_20_c]
  simp (disch := first | assumption | decide | omega) [f1, f3, g0, hlenA, hl27, a1, a2]
  refine AeEnds.mk ?_
  exact ⟨rfl, by simp [f1], by simp [f3], hnb, g0⟩
 intro f1 nb1 g1 d1 hI
 rw [k5_21_c]
 refine AeEnds.seq (P := fun f' nb' g' => RelI m av mv res f' nb' g') ?_ ?_
 ·obtain ⟨q1, q3, qn, qg⟩ := hI
  rw [k5_28_c]
  simp (disch := first | assumption | decide | omega) [q3, hl27]
  rw [k5_31_c]
  refine AeEnds.block (Q := fun e f' nb' g' => e = .exit 0 ∧ RelI m av mv res f' nb' g') ((rel_loop0 (res := res) (by omega) hr.rep res.length 0 _ _ rfl (Nat.zero_le _) ?_ ?_ ?_ ?_).ends fun e f' h => ⟨h.1, ?_, h.2.2, qn, qg⟩) ?_ ?_
  ·simp [q3]
  ·simp
  ·simp
  ·simp
  ·rw [h.2.1]; simp [q1]
  ·rintro f' nb' g' ⟨_, h⟩; exact ⟨rfl, h⟩
  ·rintro e f' nb' g' hne ⟨rfl, _⟩; exact absurd rfl hne
 intro f2 nb2 g2 d2 hI
 rw [k5_29_c]
 refine AeEnds.seq (P := fun f' nb' g' => RelI m av mv res f' nb' g') ?_ ?_
 ·obtain ⟨q1, q3, qn, qg⟩ := hI
  rw [k5_51_c]
  simp (disch := first | assumption | decide | omega) [q1, qg, hlenM]
  rw [k5_54_c]
  refine AeEnds.block (Q := fun e f' nb' g' => e = .exit 2 ∧ RelI m av mv res f' nb' g') ?_ ?_ ?_
  ·by_cases hlm : lm = []
   ·refine rel_nil1 ⟨?_, ?_, qn, qg⟩ ?_ ?_
    ·simp [q1]
    ·simp [q3]
    ·simp [hlm]
    ·simp
   ·obtain ⟨o, ho⟩ := hM.vs hlm
    refine rel_loop1 (K := toK lm) (o := o) (by omega) (fun j p h => by have := hP.hm j p h; omega) (fun j p h => hr.mrg j p h rfl) (toK lm).length 0 _ _ _ _ rfl (Nat.zero_le _) ⟨?_, ?_, qn, qg⟩ ?_ ?_ ?_
    ·simp [q1]
    ·simp [q3]
    ·simp [ho, em, klm]
    ·simp [klm]
    ·simp
  ·rintro f' nb' g' ⟨_, h⟩; exact ⟨rfl, h⟩
  ·rintro e f' nb' g' hne ⟨rfl, _⟩; exact absurd rfl hne
 intro f3 nb3 g3 d3 hI
 rw [k5_52_c]
 refine AeEnds.seq (P := fun f' nb' g' => RelI m av mv res f' nb' g') ?_ ?_
 ·obtain ⟨q1, q3, qn, qg⟩ := hI
  rw [k5_74_c]
  simp (disch := first | assumption | decide | omega) [q1, qg, hlenA]
  rw [k5_77_c]
  refine AeEnds.block (Q := fun e f' nb' g' => e = .exit 4 ∧ RelI m av mv res f' nb' g') ?_ ?_ ?_
  ·by_cases hla : la = []
   ·refine rel_nil2 ⟨?_, ?_, qn, qg⟩ ?_ ?_
    ·simp [q1]
    ·simp [q3]
    ·simp [hla]
    ·simp
   ·obtain ⟨o, ho⟩ := hA.vs hla
    have ho' : av = .vs (prs (toK la)) (toK la).length 2 o := by rw [ho, ea, kl]
    subst ho'
    refine rel_loop2 (K := toK la) (o := o) hm (by omega) hlen hP.ha hr.app (toK la).length 0 _ _ _ _ rfl (Nat.zero_le _) ⟨?_, ?_, qn, qg⟩ ?_ ?_ ?_
    ·simp [q1]
    ·simp [q3]
    ·simp
    ·simp [kl]
    ·simp
  ·rintro f' nb' g' ⟨_, h⟩; exact ⟨rfl, h⟩
  ·rintro e f' nb' g' hne ⟨rfl, _⟩; exact absurd rfl hne
 intro f4 nb4 g4 d4 hI
 rw [k5_75_c, k5_120_c]
 simp (disch := first | assumption | decide | omega) [awake_call, k5_121_c]
 refine AeEnds.mk ?_
 exact ⟨rfl, by simp⟩
theorem relates {t : Int} {la lm : List PrI} {av mv : V} (hA : InS av la) (hM : InS mv lm) : AeRets (fun v _ _ => v = .bool true) ((EV Tryz.prog hs ks).call 5 [.agg [.int .i64 t, av, mv]] (mkH 0 (fun _ => .gone) [])) := by
 have hfew := few_call (t := t) hA hM
 rw [k5_fun _ (by simp), k5_c]
 refine AeEnds.rets (n := 200) (Q := fun e f' _ _ => e = .ret ∧ f' 2 = .bool true) ?_ ?_
 ·refine AeEnds.seq (P := fun f' nb' g' => f' 1 = .ptr 0 0 ∧ nb' = 1 ∧ g' 0 = .row 0 [.int .i64 t, av, mv]) ?_ ?_
  ·rw [k5_0_c]
   simp (disch := first | assumption | decide | omega)
   refine AeEnds.mk ?_
   exact ⟨rfl, by simp, rfl, by simp⟩
  rintro f1 nb1 g1 d1 ⟨f1', rfl, g0⟩
  rw [k5_1_c]
  cases hb : fewB t la lm with
  | false =>
    rw [hb] at hfew
    simp (disch := first | assumption | decide | omega) [k5_2_c, f1', g0, hfew, awake_call]
    refine AeEnds.mk ?_
    exact ⟨rfl, by simp⟩
  | true =>
    rw [hb] at hfew
    have hbs : t ≤ 16 ∧ la.length ≤ 16 ∧ lm.length ≤ 16 := by
     unfold fewB at hb
     simp only [Bool.and_eq_true, decide_eq_true_eq] at hb
     omega
    obtain ⟨ht, hLa, hLm⟩ := hbs
    refine AeEnds.seq (P := fun f' nb' g' => f' 1 = .ptr 0 0 ∧ nb' = 1 ∧ g' 0 = .row 0 [.int .i64 t, av, mv]) ?_ ?_
    ·simp (disch := first | assumption | decide | omega) [k5_2_c, f1', g0, hfew, awake_call]
     refine AeEnds.mk ?_
     exact ⟨rfl, by simp [f1'], rfl, g0⟩
    rintro f2 nb2 g2 d2 ⟨f2', rfl, g0'⟩
    rw [k5_3_c]
    obtain ⟨v, hv, hc⟩ := close_call ht hA hM hLa hLm
    cases hv with
    | err hchk =>
      have hneq : binV Tryz.prog .neq 28 false true (.int .i64 2) (.int .i64 0) = some (.bool true) := rfl
      have hl0 : ∀ get nid, builtinV Tryz.prog false get nid .len [27] [.nils] = some { v := nv 0 } := len27 (l := []) (.inl ⟨rfl, rfl⟩)
      have heq : intOp .eql .i64 0 .i64 0 = some (.bool true) := rfl
      simp (disch := first | assumption | decide | omega) [f2', g0', hc, k5_11_c, k5_12_c, hneq, hl0, heq, awake_call]
      refine AeEnds.mk ?_
      exact ⟨rfl, by simp⟩
    | @ok m res ht' hchk hr =>
      subst ht'
      have hneq : binV Tryz.prog .neq 28 false true (.int .i64 0) (.int .i64 0) = some (.bool false) := rfl
      refine AeEnds.seq (P := fun f' nb' g' => RelI m av mv res f' nb' g' ∧ f' 4 = .int .i64 0) ?_ ?_
      ·simp (disch := first | assumption | decide | omega) [f2', g0', hc]
       refine AeEnds.mk ?_
       exact ⟨rfl, ⟨by simp [f2'], by simp, by omega, g0'⟩, by simp⟩
      rintro f3 nb3 g3 d3 ⟨hI, h4⟩
      rw [k5_11_c]
      refine AeEnds.seq (P := fun f' nb' g' => RelI m av mv res f' nb' g') ?_ ?_
      ·obtain ⟨q1, q3, qn, qg⟩ := hI
       simp (disch := first | assumption | decide | omega) [k5_12_c, h4, hneq]
       refine AeEnds.mk ?_
       exact ⟨rfl, by simp [q1], by simp [q3], qn, qg⟩
      intro f4 nb4 g4 d4 hI
      exact rel_good (by omega) hA hM hLa hLm hchk hr hI
 ·rintro e f' nb' g' d' ⟨rfl, h2⟩
  rw [k5_ret]
  simp (disch := first | assumption | decide | omega) [h2]
  refine AeRets.mk ?_
  rfl
end Go.Proofs.YtdlaladdeelegaaGreat.Cg
end
