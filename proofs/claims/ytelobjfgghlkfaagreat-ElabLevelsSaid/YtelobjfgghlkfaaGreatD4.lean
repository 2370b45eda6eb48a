import Derived.Test.YtelobjfgghlkfaaGreatD1
import Derived.KernelRfl
import Derived.Test.YtelobjfgghlkfaaGreatA8
import Derived.Test.YtelobjfgghlkfaaGreatD2
import Derived.Test.YtelobjfgghlkfaaGreatD3
set_option linter.all false
noncomputable section
namespace Go.Proofs.YtelobjfgghlkfaaGreat.El
open Go Go.Ae
variable (r : Option Nat) (dn : List (Nat × Foot)) (s : St)
/-! function 162 -/
noncomputable def k162 : Code := Tryz.f162.body.getD .skip
theorem k162_fun (args : List V) (ha : args.length ≤ 19) (h : H) : (EV Tryz.prog hs ks).call 162 args h = endsV Tryz.prog hs ks Tryz.f162 (Qc Tryz.prog hs ks ⟨162, none⟩ k162 (S 19 (setF args 0 fun _ => undefV) [] h)) := EV_fun Tryz.func162 (by kernel_rfl) (by kernel_rfl) (by decide) ha h
theorem k162_ret (f : Nat → V) (h : H) : endsV Tryz.prog hs ks Tryz.f162 (some [(.ret, S 19 f [] h)]) = resV (resultVs Tryz.prog (S 19 f [] h) [.tmp 4]) h := ends_one (by kernel_rfl) (Or.inl rfl) _ _
theorem k162_nrm (f : Nat → V) (h : H) : endsV Tryz.prog hs ks Tryz.f162 (some [(.normal, S 19 f [] h)]) = resV (resultVs Tryz.prog (S 19 f [] h) [.tmp 4]) h := ends_one (by kernel_rfl) (Or.inr rfl) _ _
noncomputable def k162_0 : Code := codeA k162
noncomputable def k162_1 : Code := codeB k162
theorem k162_c : Qc Tryz.prog hs ks ⟨162, r⟩ k162 s = thenV (Qc Tryz.prog hs ks ⟨162, r⟩ k162_0 s) (Qc Tryz.prog hs ks ⟨162, r⟩ k162_1) := Qc_seq (a := k162_0) (b := k162_1) (by kernel_rfl) _ _
theorem k162_0_c : Qc Tryz.prog hs ks ⟨162, r⟩ k162_0 s = Qo Tryz.prog hs ks k162_0 0 ⟨162, r⟩ s := Qc_region (id := 0) (ops := regOps k162_0) (by kernel_rfl) (by kernel_rfl) s
theorem k162_0_0 : Qo Tryz.prog hs ks k162_0 0 ⟨162, r⟩ s = stepV s (some 4) (some { v := (.int .i64 (0)) }) (Qo Tryz.prog hs ks k162_0 1 ⟨162, r⟩) := oR (by kernel_rfl)
theorem k162_0_1 : Qo Tryz.prog hs ks k162_0 1 ⟨162, r⟩ s = some [(.normal, s)] := Qo_end (by kernel_rfl) s
noncomputable def k162_2 : Code := codeA k162_1
noncomputable def k162_3 : Code := codeB k162_1
theorem k162_1_c : Qc Tryz.prog hs ks ⟨162, r⟩ k162_1 s = thenV (Qc Tryz.prog hs ks ⟨162, r⟩ k162_2 s) (Qc Tryz.prog hs ks ⟨162, r⟩ k162_3) := Qc_seq (a := k162_2) (b := k162_3) (by kernel_rfl) _ _
noncomputable def k162_4 : Code := codeA k162_2
noncomputable def k162_5 : Code := codeB k162_2
theorem k162_2_c : Qc Tryz.prog hs ks ⟨162, r⟩ k162_2 s = thenV (Qc Tryz.prog hs ks ⟨162, r⟩ k162_4 s) (Qc Tryz.prog hs ks ⟨162, r⟩ k162_5) := Qc_seq (a := k162_4) (b := k162_5) (by kernel_rfl) _ _
theorem k162_4_c : Qc Tryz.prog hs ks ⟨162, r⟩ k162_4 s = Qo Tryz.prog hs ks k162_4 0 ⟨162, r⟩ s := Qc_region (id := 1) (ops := regOps k162_4) (by kernel_rfl) (by kernel_rfl) s
theorem k162_4_0 : Qo Tryz.prog hs ks k162_4 0 ⟨162, r⟩ s = stepV s (some 6) (some { v := (s.regs.get undefV 0) }) (Qo Tryz.prog hs ks k162_4 1 ⟨162, r⟩) := oR (by kernel_rfl)
theorem k162_4_1 : Qo Tryz.prog hs ks k162_4 1 ⟨162, r⟩ s = stepV s (some 7) (builtinV Tryz.prog false s.h.get s.h.n .len [35] [(s.regs.get undefV 6)]) (Qo Tryz.prog hs ks k162_4 2 ⟨162, r⟩) := oR (by kernel_rfl)
theorem k162_4_2 : Qo Tryz.prog hs ks k162_4 2 ⟨162, r⟩ s = stepV s (some 8) (some { v := (.int .i64 (0)) }) (Qo Tryz.prog hs ks k162_4 3 ⟨162, r⟩) := oR (by kernel_rfl)
theorem k162_4_3 : Qo Tryz.prog hs ks k162_4 3 ⟨162, r⟩ s = some [(.normal, s)] := Qo_end (by kernel_rfl) s
noncomputable def k162_6 : Code := codeA k162_5
theorem k162_5_c : Qc Tryz.prog hs ks ⟨162, r⟩ k162_5 s = blockV 0 (Qc Tryz.prog hs ks ⟨162, r⟩ k162_6 s) := Qc_block (b := k162_6) (by kernel_rfl) _ _
noncomputable def k162_7 : Code := codeA k162_6
theorem k162_6_l : Qc Tryz.prog hs ks ⟨162, r⟩ k162_6 s = thenV (Qc Tryz.prog hs ks ⟨162, r⟩ k162_7 s) (Qc Tryz.prog hs ks ⟨162, r⟩ k162_6) := Qc_loop (b := k162_7) (by kernel_rfl) _ _
noncomputable def k162_8 : Code := codeA k162_7
noncomputable def k162_9 : Code := codeB k162_7
theorem k162_7_c : Qc Tryz.prog hs ks ⟨162, r⟩ k162_7 s = thenV (Qc Tryz.prog hs ks ⟨162, r⟩ k162_8 s) (Qc Tryz.prog hs ks ⟨162, r⟩ k162_9) := Qc_seq (a := k162_8) (b := k162_9) (by kernel_rfl) _ _
theorem k162_8_c : Qc Tryz.prog hs ks ⟨162, r⟩ k162_8 s = Qo Tryz.prog hs ks k162_8 0 ⟨162, r⟩ s := Qc_region (id := 2) (ops := regOps k162_8) (by kernel_rfl) (by kernel_rfl) s
theorem k162_8_0 : Qo Tryz.prog hs ks k162_8 0 ⟨162, r⟩ s = stepV s (some 9) (val (binV Tryz.prog .lss 3 false false (s.regs.get undefV 8) (s.regs.get undefV 7))) (Qo Tryz.prog hs ks k162_8 1 ⟨162, r⟩) := oR (by kernel_rfl)
theorem k162_8_1 : Qo Tryz.prog hs ks k162_8 1 ⟨162, r⟩ s = some [(.normal, s)] := Qo_end (by kernel_rfl) s
noncomputable def k162_10 : Code := codeA k162_9
noncomputable def k162_11 : Code := codeB k162_9
theorem k162_9_c : Qc Tryz.prog hs ks ⟨162, r⟩ k162_9 s = thenV (Qc Tryz.prog hs ks ⟨162, r⟩ k162_10 s) (Qc Tryz.prog hs ks ⟨162, r⟩ k162_11) := Qc_seq (a := k162_10) (b := k162_11) (by kernel_rfl) _ _
noncomputable def k162_12 : Code := codeA k162_10
noncomputable def k162_13 : Code := codeB k162_10
theorem k162_10_c : Qc Tryz.prog hs ks ⟨162, r⟩ k162_10 s = condV (s.regs.get undefV 9) (Qc Tryz.prog hs ks ⟨162, r⟩ k162_12) (Qc Tryz.prog hs ks ⟨162, r⟩ k162_13) s := Qc_cond (t := 9) (a := k162_12) (b := k162_13) (by kernel_rfl) _ _
theorem k162_12_c : Qc Tryz.prog hs ks ⟨162, r⟩ k162_12 s = some [(.normal, s)] := Qc_skip (by kernel_rfl) _ _
theorem k162_13_c : Qc Tryz.prog hs ks ⟨162, r⟩ k162_13 s = some [(.exit 0, s)] := Qc_exit (by kernel_rfl) _ _
noncomputable def k162_14 : Code := codeA k162_11
noncomputable def k162_15 : Code := codeB k162_11
theorem k162_11_c : Qc Tryz.prog hs ks ⟨162, r⟩ k162_11 s = thenV (Qc Tryz.prog hs ks ⟨162, r⟩ k162_14 s) (Qc Tryz.prog hs ks ⟨162, r⟩ k162_15) := Qc_seq (a := k162_14) (b := k162_15) (by kernel_rfl) _ _
noncomputable def k162_16 : Code := codeA k162_14
theorem k162_14_c : Qc Tryz.prog hs ks ⟨162, r⟩ k162_14 s = blockV 1 (Qc Tryz.prog hs ks ⟨162, r⟩ k162_16 s) := Qc_block (b := k162_16) (by kernel_rfl) _ _
noncomputable def k162_17 : Code := codeA k162_16
noncomputable def k162_18 : Code := codeB k162_16
theorem k162_16_c : Qc Tryz.prog hs ks ⟨162, r⟩ k162_16 s = thenV (Qc Tryz.prog hs ks ⟨162, r⟩ k162_17 s) (Qc Tryz.prog hs ks ⟨162, r⟩ k162_18) := Qc_seq (a := k162_17) (b := k162_18) (by kernel_rfl) _ _
theorem k162_17_c : Qc Tryz.prog hs ks ⟨162, r⟩ k162_17 s = Qo Tryz.prog hs ks k162_17 0 ⟨162, r⟩ s := Qc_region (id := 3) (ops := regOps k162_17) (by kernel_rfl) (by kernel_rfl) s
theorem k162_17_0 : Qo Tryz.prog hs ks k162_17 0 ⟨162, r⟩ s = stepV s (some 10) (some { v := (s.regs.get undefV 8) }) (Qo Tryz.prog hs ks k162_17 1 ⟨162, r⟩) := oR (by kernel_rfl)
theorem k162_17_1 : Qo Tryz.prog hs ks k162_17 1 ⟨162, r⟩ s = stepV s (some 5) (some { v := (s.regs.get undefV 10) }) (Qo Tryz.prog hs ks k162_17 2 ⟨162, r⟩) := oR (by kernel_rfl)
theorem k162_17_2 : Qo Tryz.prog hs ks k162_17 2 ⟨162, r⟩ s = some [(.normal, s)] := Qo_end (by kernel_rfl) s
noncomputable def k162_19 : Code := codeA k162_18
noncomputable def k162_20 : Code := codeB k162_18
theorem k162_18_c : Qc Tryz.prog hs ks ⟨162, r⟩ k162_18 s = thenV (Qc Tryz.prog hs ks ⟨162, r⟩ k162_19 s) (Qc Tryz.prog hs ks ⟨162, r⟩ k162_20) := Qc_seq (a := k162_19) (b := k162_20) (by kernel_rfl) _ _
theorem k162_19_c : Qc Tryz.prog hs ks ⟨162, r⟩ k162_19 s = Qo Tryz.prog hs ks k162_19 0 ⟨162, r⟩ s := Qc_region (id := 4) (ops := regOps k162_19) (by kernel_rfl) (by kernel_rfl) s
theorem k162_19_0 : Qo Tryz.prog hs ks k162_19 0 ⟨162, r⟩ s = stepV s (some 11) (some { v := (s.regs.get undefV 1) }) (Qo Tryz.prog hs ks k162_19 1 ⟨162, r⟩) := oR (by kernel_rfl)
theorem k162_19_1 : Qo Tryz.prog hs ks k162_19 1 ⟨162, r⟩ s = stepV s (some 12) (some { v := (s.regs.get undefV 0) }) (Qo Tryz.prog hs ks k162_19 2 ⟨162, r⟩) := oR (by kernel_rfl)
theorem k162_19_2 : Qo Tryz.prog hs ks k162_19 2 ⟨162, r⟩ s = stepV s (some 13) (some { v := (s.regs.get undefV 5) }) (Qo Tryz.prog hs ks k162_19 3 ⟨162, r⟩) := oR (by kernel_rfl)
theorem k162_19_3 : Qo Tryz.prog hs ks k162_19 3 ⟨162, r⟩ s = stepV s (some 14) (val (indexAddr Tryz.prog 35 (s.regs.get undefV 12) (s.regs.get undefV 13))) (Qo Tryz.prog hs ks k162_19 4 ⟨162, r⟩) := oR (by kernel_rfl)
theorem k162_19_4 : Qo Tryz.prog hs ks k162_19 4 ⟨162, r⟩ s = stepV s (some 15) (xLoad Tryz.prog 74 s.h.get (s.regs.get undefV 14)) (Qo Tryz.prog hs ks k162_19 5 ⟨162, r⟩) := oR (by kernel_rfl)
theorem k162_19_5 : Qo Tryz.prog hs ks k162_19 5 ⟨162, r⟩ s = thenC (some 16) s (callX Tryz.prog hs ks (callOf (s.regs.get undefV 11) [(s.regs.get undefV 15)]) s.h) (Qo Tryz.prog hs ks k162_19 6 ⟨162, r⟩) := xR (by kernel_rfl)
theorem k162_19_6 : Qo Tryz.prog hs ks k162_19 6 ⟨162, r⟩ s = some [(.normal, s)] := Qo_end (by kernel_rfl) s
noncomputable def k162_21 : Code := codeA k162_20
noncomputable def k162_22 : Code := codeB k162_20
theorem k162_20_c : Qc Tryz.prog hs ks ⟨162, r⟩ k162_20 s = condV (s.regs.get undefV 16) (Qc Tryz.prog hs ks ⟨162, r⟩ k162_21) (Qc Tryz.prog hs ks ⟨162, r⟩ k162_22) s := Qc_cond (t := 16) (a := k162_21) (b := k162_22) (by kernel_rfl) _ _
noncomputable def k162_23 : Code := codeA k162_21
noncomputable def k162_24 : Code := codeB k162_21
theorem k162_21_c : Qc Tryz.prog hs ks ⟨162, r⟩ k162_21 s = thenV (Qc Tryz.prog hs ks ⟨162, r⟩ k162_23 s) (Qc Tryz.prog hs ks ⟨162, r⟩ k162_24) := Qc_seq (a := k162_23) (b := k162_24) (by kernel_rfl) _ _
theorem k162_23_c : Qc Tryz.prog hs ks ⟨162, r⟩ k162_23 s = Qo Tryz.prog hs ks k162_23 0 ⟨162, r⟩ s := Qc_region (id := 5) (ops := regOps k162_23) (by kernel_rfl) (by kernel_rfl) s
theorem k162_23_0 : Qo Tryz.prog hs ks k162_23 0 ⟨162, r⟩ s = stepV s (some 17) (some { v := (s.regs.get undefV 5) }) (Qo Tryz.prog hs ks k162_23 1 ⟨162, r⟩) := oR (by kernel_rfl)
theorem k162_23_1 : Qo Tryz.prog hs ks k162_23 1 ⟨162, r⟩ s = stepV s (some 4) (some { v := (s.regs.get undefV 17) }) (Qo Tryz.prog hs ks k162_23 2 ⟨162, r⟩) := oR (by kernel_rfl)
theorem k162_23_2 : Qo Tryz.prog hs ks k162_23 2 ⟨162, r⟩ s = some [(.normal, s)] := Qo_end (by kernel_rfl) s
theorem k162_24_c : Qc Tryz.prog hs ks ⟨162, r⟩ k162_24 s = some [(.ret, s)] := Qc_ret (by kernel_rfl) _ _
theorem k162_22_c : Qc Tryz.prog hs ks ⟨162, r⟩ k162_22 s = some [(.normal, s)] := Qc_skip (by kernel_rfl) _ _
theorem k162_15_c : Qc Tryz.prog hs ks ⟨162, r⟩ k162_15 s = Qo Tryz.prog hs ks k162_15 0 ⟨162, r⟩ s := Qc_region (id := 6) (ops := regOps k162_15) (by kernel_rfl) (by kernel_rfl) s
theorem k162_15_0 : Qo Tryz.prog hs ks k162_15 0 ⟨162, r⟩ s = stepV s (some 18) (val (binV Tryz.prog .add 3 false true (s.regs.get undefV 8) (.int .i64 (1)))) (Qo Tryz.prog hs ks k162_15 1 ⟨162, r⟩) := oR (by kernel_rfl)
theorem k162_15_1 : Qo Tryz.prog hs ks k162_15 1 ⟨162, r⟩ s = stepV s (some 8) (some { v := (s.regs.get undefV 18) }) (Qo Tryz.prog hs ks k162_15 2 ⟨162, r⟩) := oR (by kernel_rfl)
theorem k162_15_2 : Qo Tryz.prog hs ks k162_15 2 ⟨162, r⟩ s = some [(.normal, s)] := Qo_end (by kernel_rfl) s
noncomputable def k162_25 : Code := codeA k162_3
noncomputable def k162_26 : Code := codeB k162_3
theorem k162_3_c : Qc Tryz.prog hs ks ⟨162, r⟩ k162_3 s = thenV (Qc Tryz.prog hs ks ⟨162, r⟩ k162_25 s) (Qc Tryz.prog hs ks ⟨162, r⟩ k162_26) := Qc_seq (a := k162_25) (b := k162_26) (by kernel_rfl) _ _
theorem k162_25_c : Qc Tryz.prog hs ks ⟨162, r⟩ k162_25 s = Qo Tryz.prog hs ks k162_25 0 ⟨162, r⟩ s := Qc_region (id := 7) (ops := regOps k162_25) (by kernel_rfl) (by kernel_rfl) s
theorem k162_25_0 : Qo Tryz.prog hs ks k162_25 0 ⟨162, r⟩ s = stepV s (some 4) (some { v := (.int .i64 (-1)) }) (Qo Tryz.prog hs ks k162_25 1 ⟨162, r⟩) := oR (by kernel_rfl)
theorem k162_25_1 : Qo Tryz.prog hs ks k162_25 1 ⟨162, r⟩ s = some [(.normal, s)] := Qo_end (by kernel_rfl) s
theorem k162_26_c : Qc Tryz.prog hs ks ⟨162, r⟩ k162_26 s = some [(.ret, s)] := Qc_ret (by kernel_rfl) _ _
end Go.Proofs.YtelobjfgghlkfaaGreat.El

/- Facts of types; slices of variables of levels. -/
set_option linter.unusedSimpArgs false
namespace Go.Proofs.YtelobjfgghlkfaaGreat.El
open Go Go.Ae

theorem bd37_0 (a : V) : buildC Tryz.prog 37 [(0, [a])] = some (.agg [a, .nils]) := by kernel_rfl
theorem bd37_1 (a : V) : buildC Tryz.prog 37 [(1, [a])] = some (.agg [.int .i64 0, a]) := by kernel_rfl
theorem bd37 : buildC Tryz.prog 37 [] = some (.agg [.int .i64 0, .nils]) := by kernel_rfl
theorem bd74 : buildC Tryz.prog 74 [] = some (.agg [.int .i64 0, .int .i64 0]) := by kernel_rfl
theorem bd74_0 (a : V) : buildC Tryz.prog 74 [(0, [a])] = some (.agg [a, .int .i64 0]) := by kernel_rfl
theorem bd74_01 (a b : V) : buildC Tryz.prog 74 [(0, [a]), (1, [b])] = some (.agg [a, b]) := by kernel_rfl
theorem bd27 : buildC Tryz.prog 27 [] = some (.agg [.nils, .nils, .nils, .int .i64 0]) := by kernel_rfl
theorem sz37 : szOf Tryz.prog 37 = 2 := by kernel_rfl
theorem sz74 : szOf Tryz.prog 74 = 2 := by kernel_rfl
theorem sz27 : szOf Tryz.prog 27 = 4 := by kernel_rfl
theorem sz34 : szOf Tryz.prog 34 = 2 := by kernel_rfl
theorem sz35 : szOf Tryz.prog 35 = 1 := by kernel_rfl
theorem sz3 : szOf Tryz.prog 3 = 1 := by kernel_rfl
theorem sz9 : szOf Tryz.prog 9 = 1 := by kernel_rfl
theorem un35 : und Tryz.prog 35 = .slice 74 := by kernel_rfl
theorem un22 : und Tryz.prog 22 = .slice 9 := by kernel_rfl
theorem un28 : und Tryz.prog 28 = .slice 34 := by kernel_rfl
theorem un9 : und Tryz.prog 9 = .string := by kernel_rfl
theorem ok74 : okT Tryz.prog 74 = true := by kernel_rfl
theorem ok34 : okT Tryz.prog 34 = true := by kernel_rfl
theorem ok9 : okT Tryz.prog 9 = true := by kernel_rfl

theorem ldA {t m : Nat} (h : isAggT Tryz.prog t = true) (hs : szOf Tryz.prog t = m) (cs : List V) : loadV Tryz.prog t cs = if m ≤ cs.length then some (.agg (cs.take m)) else none := by
  unfold loadV
  rw [h, hs]; rfl
theorem ld1 {t : Nat} (h : isAggT Tryz.prog t = false) (h2 : okU Tryz.prog t = true) (cs : List V) : loadV Tryz.prog t cs = cs.head? := by
  unfold loadV
  rw [h, h2]; rfl
theorem ld37 (cs : List V) : loadV Tryz.prog 37 cs = if 2 ≤ cs.length then some (.agg (cs.take 2)) else none := ldA (by kernel_rfl) sz37 cs
theorem ld74 (cs : List V) : loadV Tryz.prog 74 cs = if 2 ≤ cs.length then some (.agg (cs.take 2)) else none := ldA (by kernel_rfl) sz74 cs
theorem ld27 (cs : List V) : loadV Tryz.prog 27 cs = if 4 ≤ cs.length then some (.agg (cs.take 4)) else none := ldA (by kernel_rfl) sz27 cs
theorem ld34 (cs : List V) : loadV Tryz.prog 34 cs = if 2 ≤ cs.length then some (.agg (cs.take 2)) else none := ldA (by kernel_rfl) sz34 cs
theorem ld30 (cs : List V) : loadV Tryz.prog 30 cs = if 2 ≤ cs.length then some (.agg (cs.take 2)) else none := ldA (by kernel_rfl) (by kernel_rfl) cs
theorem ld3 (cs : List V) : loadV Tryz.prog 3 cs = cs.head? := ld1 (by kernel_rfl) (by kernel_rfl) cs
theorem ld4 (cs : List V) : loadV Tryz.prog 4 cs = cs.head? := ld1 (by kernel_rfl) (by kernel_rfl) cs
theorem ld9 (cs : List V) : loadV Tryz.prog 9 cs = cs.head? := ld1 (by kernel_rfl) (by kernel_rfl) cs
theorem ld23 (cs : List V) : loadV Tryz.prog 23 cs = cs.head? := ld1 (by kernel_rfl) (by kernel_rfl) cs
theorem ld28 (cs : List V) : loadV Tryz.prog 28 cs = cs.head? := ld1 (by kernel_rfl) (by kernel_rfl) cs
theorem ld35 (cs : List V) : loadV Tryz.prog 35 cs = cs.head? := ld1 (by kernel_rfl) (by kernel_rfl) cs

/-- A level. -/
def lvl (c : Int) (s : V) : V := .agg [.int .i64 c, s]
/-- A variable of a level. -/
def lv (x : Int × Int) : V := .agg [.int .i64 x.1, .int .i64 x.2]
/-- The cells of variables of a level. -/
def vcs : List (Int × Int) → List V
  | [] => []
  | x :: l => .int .i64 x.1 :: .int .i64 x.2 :: vcs l

theorem vcs_len : ∀ l : List (Int × Int), (vcs l).length = 2 * l.length
  | [] => rfl
  | x :: l => by show (vcs l).length + 1 + 1 = _; rw [vcs_len l, List.length_cons]; omega
theorem vcs_drop : ∀ (i : Nat) (l : List (Int × Int)), (vcs l).drop (i * 2) = vcs (l.drop i)
  | 0, l => rfl
  | i + 1, [] => by simp [vcs]
  | i + 1, x :: l => by
    rw [show (i + 1) * 2 = i * 2 + 1 + 1 by omega]
    show (vcs l).drop (i * 2) = _
    rw [vcs_drop i l]; rfl
theorem vcs_append : ∀ a b : List (Int × Int), vcs (a ++ b) = vcs a ++ vcs b
  | [], _ => rfl
  | x :: a, b => by show _ :: _ :: vcs (a ++ b) = _; rw [vcs_append a b]; rfl

/-- A slice of variables that nobody appends to. -/
structure IsVs (l : List (Int × Int)) (s : V) : Prop where
  is : (l = [] ∧ s = .nils) ∨ ∃ own, s = .vs (vcs l) l.length 2 own ∧ (own = .tight ∨ own = .lock)

section
variable {l : List (Int × Int)} {s : V}
theorem IsVs.nil : IsVs [] .nils := ⟨Or.inl ⟨rfl, rfl⟩⟩
theorem IsVs.mk' (own : Own) (h : own = .tight ∨ own = .lock) : IsVs l (.vs (vcs l) l.length 2 own) := ⟨Or.inr ⟨own, rfl, h⟩⟩
theorem IsVs.len (h : IsVs l s) (get : Nat → Blk) (n : Nat) : builtinV Tryz.prog false get n .len [35] [s] = some { v := .int .i64 l.length } := by
  show lenV Tryz.prog get 35 s = _
  unfold lenV
  rw [un35]
  rcases h.is with ⟨rfl, rfl⟩ | ⟨own, rfl, _⟩ <;> rfl
theorem IsVs.idx (h : IsVs l s) {i : Nat} (hi : i < l.length) : indexAddr Tryz.prog 35 s (.int .i64 (i : Int)) = some (.iptr (vcs (l.drop i))) := by
  unfold indexAddr
  rw [un35]
  rcases h.is with ⟨rfl, rfl⟩ | ⟨own, rfl, _⟩
  · cases hi
  · show (if (0 : Int) ≤ (i : Int) ∧ (i : Int) < (l.length : Nat) ∧ okT Tryz.prog 74 = true then some (V.iptr ((vcs l).drop ((i : Int).toNat * szOf Tryz.prog 74))) else none) = _
    rw [if_pos ⟨by omega, by omega, ok74⟩, sz74, Int.toNat_natCast, vcs_drop]
theorem IsVs.cells (h : IsVs l s) : s.cells = [s] := by
  rcases h.is with ⟨rfl, rfl⟩ | ⟨own, rfl, _⟩ <;> rfl
theorem IsVs.one (h : IsVs l s) : s.one = true := by
  rcases h.is with ⟨rfl, rfl⟩ | ⟨own, rfl, _⟩ <;> rfl
theorem IsVs.pure (h : IsVs l s) : s.pure = true := by
  rcases h.is with ⟨rfl, rfl⟩ | ⟨own, rfl, rfl | rfl⟩ <;> rfl
theorem IsVs.shut (h : IsVs l s) : s.shut = s := by
  rcases h.is with ⟨rfl, rfl⟩ | ⟨own, rfl, rfl | rfl⟩ <;> rfl
theorem IsVs.frz (h : IsVs l s) (hh : H) (k : Nat) : Ae.freeze hh (k + 1) s = some s := by
  rcases h.is with ⟨rfl, rfl⟩ | ⟨own, rfl, rfl | rfl⟩ <;> rfl
theorem IsVs.tail {x : Int × Int} (h : IsVs (x :: l) s) : ∃ s', sliceV Tryz.prog 35 s (some (.int .i64 1)) none none = some s' ∧ IsVs l s' := by
  rcases h.is with ⟨h1, _⟩ | ⟨own, rfl, ho⟩
  · cases h1
  · unfold sliceV
    rw [un35]
    have hb : sliceBds (x :: l).length (x :: l).length (some (.int .i64 1)) none none = some (1, (x :: l).length, (x :: l).length) := by
      unfold sliceBds bd1
      show (match (if (0 : Int) ≤ 1 ∧ (1 : Int) ≤ ((x :: l).length : Nat) then some (1 : Int).toNat else none) with
        | none => none
        | some l' => some (l', (x :: l).length, (x :: l).length)) = _
      rw [if_pos ⟨by omega, by rw [List.length_cons]; omega⟩]; rfl
    show ∃ s', (if szOf Tryz.prog 74 = 2 ∧ okT Tryz.prog 74 = true then _ else _) = some s' ∧ _
    rw [if_pos ⟨sz74, ok74⟩, hb]
    have hc : ((vcs (x :: l)).drop (1 * 2)).take (((x :: l).length - 1) * 2) = vcs l := by
      rw [vcs_drop]
      show (vcs l).take _ = _
      rw [List.take_of_length_le]
      rw [vcs_len, List.length_cons]; omega
    have hl : (x :: l).length - 1 = l.length := by rw [List.length_cons]; omega
    rcases ho with rfl | rfl
    · refine ⟨.vs (vcs l) l.length 2 .tight, ?_, IsVs.mk' _ (Or.inl rfl)⟩
      simp
      exact hc
    · refine ⟨.vs (vcs l) l.length 2 .lock, ?_, IsVs.mk' _ (Or.inr rfl)⟩
      simp
      exact hc
end
end Go.Proofs.YtelobjfgghlkfaaGreat.El

/- Levels of numbers and of variables: the program's and the reference's. -/
set_option linter.unusedSimpArgs false
namespace Go.Proofs.YtelobjfgghlkfaaGreat.El
open Go Go.Ae
attribute [local simp] setF thenV_normal thenV_ret thenV_exit blockV_normal blockV_ret blockV_exit stepV_v stepV_some stepV_drop skipS_S thenC_ret S_get S_h S_dfs apply_v apply_wr apply_nw apply_wn at1_if atB_same atB_ne n_mkH get_mkH set_mkB new_mkB wantB_bool wantB_undef condV_true condV_false valS binV_int binV_str intOp_add intOp_sub intOp_eql intOp_neq intOp_lss intOp_leq intOp_gtr intOp_geq strOp_eql strOp_neq xPick_bool xUn_not ext_0 ext_1 ext_2 ext_3 addrAdd_ptr addrAdd_iptr xNilCheck_ptr build_C List.map cells_agg cells_int cells_bool cells_str cells_ptr cells_nils cells_vs xStore xLoad V.ones one_int one_bool one_str one_ptr one_nils one_vs splice resultVs_cons resultVs_nil resultV_tmp resultV_cell cellV_ptr resV_one resV_two resV_nil callOf_func callOf_yield callX_func thenC_noret stepD_vS stepD_rdS stepD_wrS stepD_nwS okD_nil okD_rd okD_wr okD_ww okD_rw okD_bef max2 eqBoolTT cond_true cond_false List.nil_append List.cons_append
attribute [local simp] k18_ret k18_nrm k18_c k18_0_c k18_0_0 k18_0_1 k18_0_2 k18_1_c k18_2_c k18_4_c k18_4_0 k18_4_1 k18_4_2 k18_5_c k18_6_c k18_8_c k18_8_0 k18_8_1 k18_8_2 k18_8_3 k18_9_c k18_7_c k18_3_c k18_10_c k18_12_c k18_12_0 k18_12_1 k18_12_2 k18_13_c k18_14_c k18_16_c k18_16_0 k18_16_1 k18_16_2 k18_16_3 k18_17_c k18_15_c k18_11_c k18_18_c k18_18_0 k18_18_1 k18_18_2 k18_18_3 k18_18_4 k18_19_c k19_ret k19_nrm k19_c k19_0_c k19_0_0 k19_0_1 k19_0_2 k19_1_c k19_2_c k19_4_c k19_4_0 k19_4_1 k19_4_2 k19_4_3 k19_4_4 k19_4_5 k19_4_6 k19_4_7 k19_4_8 k19_4_9 k19_4_10 k19_5_c k19_6_c k19_8_c k19_8_0 k19_8_1 k19_8_2 k19_8_3 k19_9_c k19_7_c k19_3_c k19_10_c k19_12_c k19_12_0 k19_12_1 k19_12_2 k19_13_c k19_14_c k19_16_c k19_16_0 k19_16_1 k19_16_2 k19_16_3 k19_17_c k19_15_c k19_11_c k19_18_c k19_18_0 k19_18_1 k19_18_2 k19_18_3 k19_18_4 k19_18_5 k19_18_6 k19_18_7 k19_19_c k38_ret k38_nrm k38_c k38_0_c k38_0_0 k38_0_1 k38_0_2 k38_1_c k38_2_c k38_4_c k38_5_c k38_5_0 k38_5_1 k38_5_2 k38_5_3 k38_6_c k38_7_c k38_9_c k38_9_0 k38_9_1 k38_9_2 k38_9_3 k38_10_c k38_8_c k38_11_c k38_11_0 k38_11_1 k38_11_2 k38_11_3 k38_12_c k38_13_c k38_15_c k38_15_0 k38_15_1 k38_15_2 k38_15_3 k38_16_c k38_14_c k38_3_c k38_17_c k38_17_0 k38_17_1 k38_17_2 k38_17_3 k38_17_4 k38_18_c k39_ret k39_nrm k39_c k39_0_c k39_0_0 k39_0_1 k39_0_2 k39_1_c k39_2_c k39_4_c k39_5_c k39_5_0 k39_5_1 k39_5_2 k39_5_3 k39_5_4 k39_5_5 k39_5_6 k39_5_7 k39_5_8 k39_5_9 k39_5_10 k39_5_11 k39_6_c k39_7_c k39_9_c k39_9_0 k39_9_1 k39_9_2 k39_9_3 k39_10_c k39_8_c k39_11_c k39_11_0 k39_11_1 k39_11_2 k39_11_3 k39_12_c k39_13_c k39_15_c k39_15_0 k39_15_1 k39_15_2 k39_15_3 k39_16_c k39_14_c k39_3_c k39_17_c k39_17_0 k39_17_1 k39_17_2 k39_17_3 k39_17_4 k39_17_5 k39_17_6 k39_17_7 k39_18_c k43_ret k43_nrm k43_c k43_0_c k43_0_0 k43_0_1 k43_1_c k43_2_c k43_2_0 k43_2_1 k43_2_2 k43_2_3 k43_3_c

theorem f43 (x : Int) (h : H) : callS Tryz.prog hs ks 43 [.int .i64 x] h = some [(.ret (lvl x .nils), h)] := by
  have key : ∃ h1, (EV Tryz.prog hs ks).call 43 [.int .i64 x] H.empty = some [(.ret (lvl x .nils), h1)] := by
    rw [k43_fun _ (by simp), empty_mkH]
    simp (disch := first | decide | omega) [bd37_0, sz37, ld37, lvl]
  obtain ⟨h1, hc⟩ := key
  exact callS_of (args' := [.int .i64 x]) rfl rfl rfl rfl hc (fun n => rfl) h

/-- What 'Of' returns (the error's number in e). -/
def ofV (x : Int) : V := if x < 0 then .tup [lvl 0 .nils, .int .i64 2] else if 100 < x then .tup [lvl 0 .nils, .int .i64 15] else .tup [lvl x .nils, .int .i64 0]

theorem ofV_ret (x : Int) (n : Nat) (h : H) : retok n h (ofV x) = some { v := ofV x } := by
  unfold ofV
  split
  · rfl
  · split <;> rfl

theorem f18 (x : Int) (h : H) : callS Tryz.prog hs ks 18 [.int .i64 x] h = some [(.ret (ofV x), h)] := by
  have key : ∃ h1, (EV Tryz.prog hs ks).call 18 [.int .i64 x] H.empty = some [(.ret (ofV x), h1)] := by
    rw [k18_fun _ (by simp), empty_mkH]
    unfold ofV
    by_cases h1 : x < 0
    · simp (disch := first | decide | omega) [bd37, sz37, ld37, h1, lvl]
    · by_cases h2 : 100 < x
      · simp (disch := first | decide | omega) [bd37, sz37, ld37, h1, h2, lvl]
      · simp (disch := first | decide | omega) [bd37, sz37, ld37, h1, h2, f43, lvl]
  obtain ⟨h1, hc⟩ := key
  exact callS_of (args' := [.int .i64 x]) rfl rfl rfl rfl hc (fun n => ofV_ret x n h1) h

theorem f38 (x : Int) (h : H) : callS Tryz.prog hs ks 38 [.int .i64 x] h = some [(.ret (ofV x), h)] := by
  have key : ∃ h1, (EV Tryz.prog hs ks).call 38 [.int .i64 x] H.empty = some [(.ret (ofV x), h1)] := by
    rw [k38_fun _ (by simp), empty_mkH]
    unfold ofV
    by_cases h1 : x < 0
    · simp (disch := first | decide | omega) [bd37, sz37, ld37, h1, lvl]
    · by_cases h2 : 100 < x
      · simp (disch := first | decide | omega) [bd37, sz37, ld37, h1, h2, lvl]
      · simp (disch := first | decide | omega) [bd37, bd37_0, sz37, ld37, h1, h2, lvl]
  obtain ⟨h1, hc⟩ := key
  exact callS_of (args' := [.int .i64 x]) rfl rfl rfl rfl hc (fun n => ofV_ret x n h1) h

/-- What 'Var' returns. -/
def varV (i p : Int) : V := if i < -65536 ∨ 7 < i ∨ p < 0 then .tup [lvl 0 .nils, .int .i64 2] else if 100 < p then .tup [lvl 0 .nils, .int .i64 15] else .tup [lvl 0 (.vs (vcs [(i, p)]) 1 2 .tight), .int .i64 0]

theorem varV_ret (i p : Int) (n : Nat) (h : H) : retok n h (varV i p) = some { v := varV i p } := by
  unfold varV
  split
  · rfl
  · split <;> rfl

/-- A slice literal of one variable. -/
theorem lit35 (a b : Int) (nid : Nat) :
    litS Tryz.prog false 35 1 [(0, .agg [.int .i64 a, .int .i64 b])] nid = some { v := .vs (vcs [(a, b)]) 1 2 .tight } := by
  unfold litS
  rw [show litCells Tryz.prog 35 1 [(0, .agg [.int .i64 a, .int .i64 b])] = some ([.int .i64 a, .int .i64 b], 2) by kernel_rfl]
  rfl

theorem f39 (i p : Int) (h : H) : callS Tryz.prog hs ks 39 [.int .i64 i, .int .i64 p] h = some [(.ret (varV i p), h)] := by
  have key : ∃ h1, (EV Tryz.prog hs ks).call 39 [.int .i64 i, .int .i64 p] H.empty = some [(.ret (varV i p), h1)] := by
    rw [k39_fun _ (by simp), empty_mkH]
    unfold varV
    by_cases h1 : i < -65536
    · simp (disch := first | decide | omega) [bd37, sz37, ld37, h1, lvl]
    · by_cases h2 : 7 < i
      · simp (disch := first | decide | omega) [bd37, sz37, ld37, h1, h2, lvl]
      · by_cases h3 : p < 0
        · simp (disch := first | decide | omega) [bd37, sz37, ld37, h1, h2, h3, lvl]
        · by_cases h4 : 100 < p
          · simp (disch := first | decide | omega) [bd37, sz37, ld37, h1, h2, h3, h4, lvl]
          · simp (disch := first | decide | omega) [bd37, bd37_1, bd74_01, sz37, ld37, h1, h2, h3, h4, lvl, lit35]
  obtain ⟨h1, hc⟩ := key
  exact callS_of (args' := [.int .i64 i, .int .i64 p]) rfl rfl rfl rfl hc (fun n => varV_ret i p n h1) h

theorem f19 (i p : Int) (h : H) : callS Tryz.prog hs ks 19 [.int .i64 i, .int .i64 p] h = some [(.ret (varV i p), h)] := by
  have key : ∃ h1, (EV Tryz.prog hs ks).call 19 [.int .i64 i, .int .i64 p] H.empty = some [(.ret (varV i p), h1)] := by
    rw [k19_fun _ (by simp), empty_mkH]
    unfold varV
    by_cases h1 : i < -65536
    · simp (disch := first | decide | omega) [bd37, sz37, ld37, h1, lvl]
    · by_cases h2 : 7 < i
      · have h2' : 8 ≤ i := by omega
        simp (disch := first | decide | omega) [bd37, sz37, ld37, h1, h2, h2', lvl]
      · have h2' : ¬ 8 ≤ i := by omega
        by_cases h3 : p < 0
        · simp (disch := first | decide | omega) [bd37, sz37, ld37, h1, h2, h2', h3, lvl]
        · by_cases h4 : 100 < p
          · simp (disch := first | decide | omega) [bd37, sz37, ld37, h1, h2, h2', h3, h4, lvl]
          · simp (disch := first | decide | omega) [bd37, bd37_1, bd74_01, sz37, ld37, h1, h2, h2', h3, h4, lvl, lit35]
  obtain ⟨h1, hc⟩ := key
  exact callS_of (args' := [.int .i64 i, .int .i64 p]) rfl rfl rfl rfl hc (fun n => varV_ret i p n h1) h
end Go.Proofs.YtelobjfgghlkfaaGreat.El

/- Levels: 'covered', and whether a level is valid. -/
set_option linter.unusedSimpArgs false
set_option linter.unusedVariables false
namespace Go.Proofs.YtelobjfgghlkfaaGreat.El
open Go Go.Ae
attribute [local simp] setF thenV_normal thenV_ret thenV_exit blockV_normal blockV_ret blockV_exit stepV_v stepV_some stepV_drop skipS_S thenC_ret S_get S_h S_dfs apply_v apply_wr apply_nw apply_wn at1_if atB_same atB_ne n_mkH get_mkH set_mkB new_mkB wantB_bool wantB_undef condV_true condV_false valS binV_int binV_str intOp_add intOp_sub intOp_eql intOp_neq intOp_lss intOp_leq intOp_gtr intOp_geq strOp_eql strOp_neq xPick_bool xUn_not ext_0 ext_1 ext_2 ext_3 addrAdd_ptr addrAdd_iptr xNilCheck_ptr build_C List.map cells_agg cells_int cells_bool cells_str cells_ptr cells_nils cells_vs xStore xLoad V.ones one_int one_bool one_str one_ptr one_nils one_vs splice resultVs_cons resultVs_nil resultV_tmp resultV_cell cellV_ptr resV_one resV_two resV_nil callOf_func callOf_yield callX_func thenC_noret stepD_vS stepD_rdS stepD_wrS stepD_nwS okD_nil okD_rd okD_wr okD_ww okD_rw okD_bef max2 eqBoolTT cond_true cond_false List.nil_append List.cons_append
attribute [local simp] k70_ret k70_nrm k70_c k70_0_c k70_0_0 k70_0_1 k70_0_2 k70_1_c k70_2_c k70_2_0 k70_2_1 k70_2_2 k70_2_3 k70_2_4 k70_2_5 k70_3_c k107_ret k107_nrm k107_c k107_0_c k107_0_0 k107_0_1 k107_1_c k107_2_c k107_2_0 k107_2_1 k107_2_2 k107_2_3 k107_2_4 k107_2_5 k107_3_c k115_ret k115_nrm k115_c k115_0_c k115_0_0 k115_0_1 k115_0_2 k115_1_c k115_2_c k115_2_0 k115_2_1 k115_2_2 k115_2_3 k115_2_4 k115_2_5 k115_2_6 k115_3_c k162_ret k162_nrm k162_c k162_0_c k162_0_0 k162_0_1 k162_1_c k162_2_c k162_4_c k162_4_0 k162_4_1 k162_4_2 k162_4_3 k162_5_c k162_7_c k162_8_c k162_8_0 k162_8_1 k162_9_c k162_10_c k162_12_c k162_13_c k162_11_c k162_14_c k162_16_c k162_17_c k162_17_0 k162_17_1 k162_17_2 k162_18_c k162_19_c k162_19_0 k162_19_1 k162_19_2 k162_19_3 k162_19_4 k162_19_5 k162_19_6 k162_20_c k162_21_c k162_23_c k162_23_0 k162_23_1 k162_23_2 k162_24_c k162_22_c k162_15_c k162_15_0 k162_15_1 k162_15_2 k162_3_c k162_25_c k162_25_0 k162_25_1 k162_26_c

theorem f115 {x : Int × Int} {nb r k : Nat} {g : Nat → Blk} {d : List Nat} {c : Int} {s : V} (hr : r < nb) (hg : g r = .row k [.int .i64 c, s]) :
    callS Tryz.prog hs ks 115 [.agg [.int .i64 x.1, .int .i64 x.2], .ptr r 0] (mkH nb g d) = some [(.ret (.bool (decide (x.2 ≥ c))), mkH (nb + 1) (atB g nb (.row 0 [.int .i64 x.1, .int .i64 x.2])) d)] := by
  rw [callS_heap rfl, k115_fun _ (by simp)]
  have h1 : r ≠ nb := by omega
  have h2 : r < nb + 1 := by omega
  simp (disch := first | decide | omega) [lv, ld3, hg, h1, h2]

/-- Is some offset at least c? -/
def cov (c : Int) (l : List (Int × Int)) : Bool := l.any fun x => decide (x.2 ≥ c)

theorem vcs_head {l : List (Int × Int)} {i : Nat} (hi : i < l.length) : ∃ t, vcs (l.drop i) = .int .i64 (l[i]).1 :: .int .i64 (l[i]).2 :: t ∧ l.drop i = l[i] :: l.drop (i + 1) := by
  have h : l.drop i = l[i] :: l.drop (i + 1) := List.drop_eq_getElem_cons hi
  refine ⟨vcs (l.drop (i + 1)), ?_, h⟩
  rw [h]; rfl

theorem l162 {l : List (Int × Int)} {s s0 : V} (hs' : IsVs l s) (hl : l.length < 1099511627776) {r k : Nat} {c : Int} : ∀ (m i : Nat) (f : Nat → V) (nb : Nat) (g : Nat → Blk) (d : List Nat), l.length - i = m → i ≤ l.length →
    f 0 = s → f 1 = .fn (.func 115) [] [.ptr r 0] → f 7 = .int .i64 l.length → f 8 = .int .i64 i → r < nb → g r = .row k [.int .i64 c, s0] →
    AeEnds 19 (fun e f' _ _ => if cov c (l.drop i) then e = .ret ∧ ∃ j : Nat, f' 4 = .int .i64 j else e = .exit 0) (Qc Tryz.prog hs ks ⟨162, none⟩ k162_6 (S 19 f [] (mkH nb g d))) := by
  intro m
  induction m with
  | zero =>
    intro i f nb g d hm hi h0 h1 h7 h8 hr hg
    have hil : i = l.length := by omega
    rw [hil, List.drop_length, k162_6_l]
    simp (disch := first | decide | omega) [h0, h1, h7, h8, hil]
    refine AeEnds.mk ?_
    rfl
  | succ m ih =>
    intro i f nb g d hm hi h0 h1 h7 h8 hr hg
    have hi' : i < l.length := by omega
    have hlt : (i : Int) < (l.length : Int) := by omega
    obtain ⟨t, ht, hd⟩ := vcs_head hi'
    have hld : loadV Tryz.prog 74 (vcs (l.drop i)) = some (.agg [.int .i64 (l[i]).1, .int .i64 (l[i]).2]) := by
      rw [ht, ld74]; simp
    rw [k162_6_l]
    by_cases hc : (l[i]).2 ≥ c
    · have hcov : cov c (l.drop i) = true := by rw [hd]; show (decide ((l[i]).2 ≥ c) || _) = true; rw [decide_eq_true hc]; rfl
      simp (disch := first | decide | omega) [h0, h1, h7, h8, hlt, hs'.idx hi', hld, hc, f115 hr hg, hcov]
      refine AeEnds.mk ?_
      simp (disch := decide) [at1_if, atB_same, atB_ne]
      exact ⟨i, rfl⟩
    · have hcov : cov c (l.drop i) = cov c (l.drop (i + 1)) := by rw [hd]; show (decide ((l[i]).2 ≥ c) || _) = _; rw [decide_eq_false hc]; rfl
      have hw : IntKind.wrap .i64 ((i : Int) + 1) = ((i + 1 : Nat) : Int) := by rw [wrap_i64 (by omega) (by omega)]; rfl
      rw [hcov]
      simp (disch := first | decide | omega) [h0, h1, h7, h8, hlt, hs'.idx hi', hld, hc, f115 hr hg, hw]
      refine ih (i + 1) _ (nb + 1) _ d (by omega) (by omega) ?_ ?_ ?_ ?_ (by omega) ?_
      all_goals simp (disch := first | decide | omega) [at1_if, atB_same, atB_ne, h0, h1, h7, h8, hg]

theorem f162 {l : List (Int × Int)} {s s0 : V} (hs' : IsVs l s) (hl : l.length < 1099511627776) {r k : Nat} {c : Int} (nb : Nat) (g : Nat → Blk) (d : List Nat) (hr : r < nb) (hg : g r = .row k [.int .i64 c, s0]) :
    AeRets (fun v _ _ => ∃ j : Int, v = .int .i64 j ∧ cov c l = decide (j ≥ 0)) (callS Tryz.prog hs ks 162 [s, .fn (.func 115) [] [.ptr r 0]] (mkH nb g d)) := by
  have hp : V.pures (V.seals [s, .fn (.func 115) [] [.ptr r 0]]) = false := by
    show (V.pure s.shut && (_ && true)) = false
    rw [hs'.shut, hs'.pure]; rfl
  rw [callS_heap hp, k162_fun _ (by simp)]
  simp (disch := first | decide | omega) [hs'.len]
  generalize hf : at1 _ 8 (V.int IntKind.i64 0) = f
  obtain ⟨e, f', nb', g', d', h1, h2⟩ := l162 hs' hl (r := r) (k := k) (c := c) (s0 := s0) l.length 0 f nb g d (by omega) (by omega) (by rw [← hf]; simp (disch := decide) [at1_if, atB_same, atB_ne]) (by rw [← hf]; simp (disch := decide) [at1_if, atB_same, atB_ne]) (by rw [← hf]; simp (disch := decide) [at1_if, atB_same, atB_ne]) (by rw [← hf]; simp (disch := decide) [at1_if, atB_same, atB_ne]) hr hg
  rw [List.drop_zero] at h2
  rw [h1]
  cases hc : cov c l with
  | true =>
    rw [hc] at h2
    obtain ⟨rfl, j, hj⟩ := h2
    simp (disch := first | decide | omega) [hj]
    exact AeRets.mk ⟨j, rfl, by simp⟩
  | false =>
    rw [hc] at h2
    obtain rfl : e = .exit 0 := h2
    simp (disch := first | decide | omega)
    exact AeRets.mk ⟨-1, rfl, by decide⟩

theorem f107 {l : List (Int × Int)} {s s0 : V} (hs' : IsVs l s) (hl : l.length < 1099511627776) {r k : Nat} {c : Int} (nb : Nat) (g : Nat → Blk) (d : List Nat) (hr : r < nb) (hg : g r = .row k [.int .i64 c, s0]) :
    AeRets (fun v _ _ => v = .bool (cov c l)) (callS Tryz.prog hs ks 107 [s, .fn (.func 115) [] [.ptr r 0]] (mkH nb g d)) := by
  have hp : V.pures (V.seals [s, .fn (.func 115) [] [.ptr r 0]]) = false := by
    show (V.pure s.shut && (_ && true)) = false
    rw [hs'.shut, hs'.pure]; rfl
  rw [callS_heap hp, k107_fun _ (by simp)]
  obtain ⟨v, nb', g', d', h1, j, rfl, hj⟩ := f162 hs' hl nb g d hr hg
  simp (disch := first | decide | omega) [h1]
  exact AeRets.mk (by rw [hj])

theorem f70 {l : List (Int × Int)} {s : V} (hs' : IsVs l s) (hl : l.length < 1099511627776) {c : Int} (h : H) : callS Tryz.prog hs ks 70 [lvl c s] h = some [(.ret (.bool (cov c l)), h)] := by
  have key : ∃ h1, (EV Tryz.prog hs ks).call 70 [lvl c s] H.empty = some [(.ret (.bool (cov c l)), h1)] := by
    rw [k70_fun _ (by simp), empty_mkH]
    obtain ⟨v, nb', g', d', h1, rfl⟩ := f107 hs' hl (c := c) (s0 := s) 1 (atB (fun _ => Blk.gone) 0 (.row 0 [.int .i64 c, s])) [] (r := 0) (k := 0) (by decide) (atB_same _ _ _)
    simp (disch := first | decide | omega) [lvl, ld35, h1]
  obtain ⟨h1, hc⟩ := key
  exact callS_of (args' := [lvl c s]) (by show [V.agg [_, s.shut]] = _; rw [hs'.shut]; rfl) (by show (V.pure s && true && true) = true; rw [hs'.pure]; rfl) rfl rfl hc (fun n => rfl) h
end Go.Proofs.YtelobjfgghlkfaaGreat.El

/- Levels: what is valid. -/
set_option linter.unusedSimpArgs false
set_option linter.unusedVariables false
namespace Go.Proofs.YtelobjfgghlkfaaGreat.El
open Go Go.Ae
attribute [local simp] setF thenV_normal thenV_ret thenV_exit blockV_normal blockV_ret blockV_exit stepV_v stepV_some stepV_drop skipS_S thenC_ret S_get S_h S_dfs apply_v apply_wr apply_nw apply_wn at1_if atB_same atB_ne n_mkH get_mkH set_mkB new_mkB wantB_bool wantB_undef condV_true condV_false valS binV_int binV_str intOp_add intOp_sub intOp_eql intOp_neq intOp_lss intOp_leq intOp_gtr intOp_geq strOp_eql strOp_neq xPick_bool xUn_not ext_0 ext_1 ext_2 ext_3 addrAdd_ptr addrAdd_iptr xNilCheck_ptr build_C List.map cells_agg cells_int cells_bool cells_str cells_ptr cells_nils cells_vs xStore xLoad V.ones one_int one_bool one_str one_ptr one_nils one_vs splice resultVs_cons resultVs_nil resultV_tmp resultV_cell cellV_ptr resV_one resV_two resV_nil callOf_func callOf_yield callX_func thenC_noret stepD_vS stepD_rdS stepD_wrS stepD_nwS okD_nil okD_rd okD_wr okD_ww okD_rw okD_bef max2 eqBoolTT cond_true cond_false List.nil_append List.cons_append
attribute [local simp] k40_ret k40_nrm k40_c k40_0_c k40_0_0 k40_0_1 k40_0_2 k40_1_c k40_2_c k40_4_c k40_4_0 k40_4_1 k40_4_2 k40_4_3 k40_4_4 k40_4_5 k40_4_6 k40_4_7 k40_4_8 k40_4_9 k40_4_10 k40_4_11 k40_4_12 k40_4_13 k40_4_14 k40_4_15 k40_4_16 k40_4_17 k40_5_c k40_6_c k40_8_c k40_8_0 k40_8_1 k40_9_c k40_7_c k40_3_c k40_10_c k40_12_c k40_12_0 k40_12_1 k40_12_2 k40_12_3 k40_12_4 k40_13_c k40_15_c k40_16_c k40_16_0 k40_16_1 k40_17_c k40_18_c k40_20_c k40_21_c k40_19_c k40_22_c k40_24_c k40_25_c k40_25_0 k40_25_1 k40_25_2 k40_25_3 k40_25_4 k40_25_5 k40_25_6 k40_26_c k40_27_c k40_27_0 k40_27_1 k40_27_2 k40_27_3 k40_27_4 k40_27_5 k40_27_6 k40_27_7 k40_27_8 k40_27_9 k40_27_10 k40_27_11 k40_27_12 k40_27_13 k40_27_14 k40_27_15 k40_27_16 k40_27_17 k40_27_18 k40_27_19 k40_27_20 k40_27_21 k40_27_22 k40_27_23 k40_27_24 k40_27_25 k40_27_26 k40_27_27 k40_27_28 k40_27_29 k40_27_30 k40_27_31 k40_27_32 k40_27_33 k40_27_34 k40_28_c k40_29_c k40_31_c k40_31_0 k40_31_1 k40_32_c k40_30_c k40_23_c k40_23_0 k40_23_1 k40_23_2 k40_11_c k40_33_c k40_33_0 k40_33_1 k40_34_c

/-- A valid level. -/
structure Good (c : Int) (l : List (Int × Int)) : Prop where
  c0 : 0 ≤ c
  c1 : c ≤ 100
  vars : ∀ x ∈ l, -65536 ≤ x.1 ∧ x.1 ≤ 7 ∧ 0 ≤ x.2 ∧ x.2 ≤ 100
  asc : l.Pairwise fun a b => a.1 < b.1
  cov : 0 < c → cov c l = false

theorem asc_len : ∀ (l : List (Int × Int)) (lo : Int), (∀ x ∈ l, lo ≤ x.1 ∧ x.1 ≤ 7) → (l.Pairwise fun a b => a.1 < b.1) → lo ≤ 8 → (l.length : Int) ≤ 8 - lo
  | [], lo, _, _, h => by simp only [List.length_nil]; omega
  | x :: l, lo, hv, ha, h => by
    obtain ⟨h1, h2⟩ := List.pairwise_cons.1 ha
    have hx := hv x (List.mem_cons_self ..)
    have := asc_len l (x.1 + 1) (fun y hy => ⟨by have := h1 y hy; omega, (hv y (List.mem_cons_of_mem _ hy)).2⟩) h2 (by omega)
    rw [List.length_cons]
    omega

section
variable {c : Int} {l : List (Int × Int)} {s : V}
theorem Good.len (h : Good c l) : l.length ≤ 65544 := by
  have := asc_len l (-65536) (fun x hx => ⟨(h.vars x hx).1, (h.vars x hx).2.1⟩) h.asc (by decide)
  omega
theorem Good.lt (h : Good c l) {i j : Nat} (hij : i < j) (hj : j < l.length) : (l[i]).1 < (l[j]).1 := List.pairwise_iff_getElem.1 h.asc i j (by omega) hj hij

theorem IsVs.idx' (h : IsVs l s) {i : Nat} {I : Int} (hI : I = i) (hi : i < l.length) : indexAddr Tryz.prog 35 s (.int .i64 I) = some (.iptr (vcs (l.drop i))) := hI ▸ h.idx hi

set_option maxHeartbeats 4000000 in
theorem l40 (hg' : Good c l) (hs' : IsVs l s) {L : Int} (hL : L = l.length) : ∀ (m i : Nat) (I : Int) (f : Nat → V) (nb : Nat) (g : Nat → Blk) (d : List Nat), l.length - i = m → i ≤ l.length → I = i →
    f 1 = .ptr 0 0 → f 23 = s → f 24 = .int .i64 L → f 25 = .int .i64 I → 0 < nb → g 0 = .row 0 [.int .i64 c, s] →
    AeEnds 65 (fun e f' _ _ => e = .exit 0) (Qc Tryz.prog hs ks ⟨40, none⟩ k40_14 (S 65 f [] (mkH nb g d))) := by
  intro m
  have hlen := hg'.len
  induction m with
  | zero =>
    intro i I f nb g d hm hi hI h1 h23 h24 h25 hr hg
    have hIL : ¬ I < L := by omega
    rw [k40_14_l]
    simp (disch := first | decide | omega) [h1, h23, h24, h25, hIL]
    exact AeEnds.mk rfl
  | succ m ih =>
    intro i I f nb g d hm hi hI h1 h23 h24 h25 hr hg
    have hi' : i < l.length := by omega
    have hlt : I < L := by omega
    obtain ⟨t, ht, hd⟩ := vcs_head hi'
    have hld : loadV Tryz.prog 74 (vcs (l.drop i)) = some (.agg [.int .i64 (l[i]).1, .int .i64 (l[i]).2]) := by
      rw [ht, ld74]; simp
    obtain ⟨v1, v2, v3, v4⟩ := hg'.vars _ (List.getElem_mem hi')
    have v1' : ¬ (l[i]).1 < -65536 := by omega
    have v2' : ¬ 7 < (l[i]).1 := by omega
    have v3' : ¬ (l[i]).2 < 0 := by omega
    have v4' : ¬ 100 < (l[i]).2 := by omega
    have n0 : nb ≠ 0 := by omega
    have n1 : 0 ≠ nb := by omega
    rw [k40_14_l]
    by_cases hi0 : i = 0
    · have hI0 : ¬ 0 < I := by omega
      simp (disch := first | decide | omega) [h1, h23, h24, h25, hlt, hs'.idx' hI hi', hld, ld3, sz74, v1', v2', v3', v4', hI0, wrap_i64]
      refine ih (i + 1) (I + 1) _ (nb + 1) _ _ (by omega) (by omega) (by omega) ?_ ?_ ?_ ?_ (by omega) ?_
      all_goals simp (disch := first | decide | omega) [at1_if, atB_same, atB_ne, h1, h23, h24, h25, hg]
    · have hj : i - 1 < l.length := by omega
      have hI0 : 0 < I := by omega
      obtain ⟨t', ht', hd'⟩ := vcs_head hj
      have hdec : ¬ (l[i-1]).1 ≥ (l[i]).1 := by have := hg'.lt (show i - 1 < i by omega) hi'; omega
      simp (disch := first | decide | omega) [h1, h23, h24, h25, hlt, hs'.idx' hI hi', hs'.idx' (show I - 1 = ((i - 1 : Nat) : Int) by omega) hj, hld, ht', ld3, ld35, hg, sz74, v1', v2', v3', v4', hI0, hdec, wrap_i64]
      refine ih (i + 1) (I + 1) _ (nb + 1) _ _ (by omega) (by omega) (by omega) ?_ ?_ ?_ ?_ (by omega) ?_
      all_goals simp (disch := first | decide | omega) [at1_if, atB_same, atB_ne, h1, h23, h24, h25, hg]

theorem lvl_seal (hs' : IsVs l s) : V.seals [lvl c s] = [lvl c s] := by show [V.agg [_, s.shut]] = _; rw [hs'.shut]; rfl
theorem lvl_pure (hs' : IsVs l s) : V.pures [lvl c s] = true := by show (V.pure s && true && true) = true; rw [hs'.pure]; rfl

theorem f40 (hg' : Good c l) (hs' : IsVs l s) (h : H) : callS Tryz.prog hs ks 40 [lvl c s] h = some [(.ret (.bool true), h)] := by
  have key : ∃ h1, (EV Tryz.prog hs ks).call 40 [lvl c s] H.empty = some [(.ret (.bool true), h1)] := by
    rw [k40_fun _ (by simp), empty_mkH]
    have hlen := hg'.len
    have h0 : ¬ c < 0 := by have := hg'.c0; omega
    have h1 : ¬ 100 < c := by have := hg'.c1; omega
    have fin : ∀ (f : Nat → V) (nb : Nat) (g : Nat → Blk) (d : List Nat), f 1 = .ptr 0 0 → f 23 = s → f 24 = .int .i64 l.length → f 25 = .int .i64 0 → 0 < nb → g 0 = .row 0 [.int .i64 c, s] →
        ∃ f' nb' g' d', Qc Tryz.prog hs ks ⟨40, none⟩ k40_14 (S 65 f [] (mkH nb g d)) = some [(.exit 0, S 65 f' [] (mkH nb' g' d'))] := by
      intro f nb g d e1 e23 e24 e25 en eg
      obtain ⟨e, f', nb', g', d', e1, rfl⟩ := l40 hg' hs' (L := l.length) rfl l.length 0 0 f nb g d (by omega) (by omega) rfl e1 e23 e24 e25 en eg
      exact ⟨f', nb', g', d', e1⟩
    by_cases h2 : 0 < c
    · have hc := hg'.cov h2
      simp (disch := first | decide | omega) [lvl, ld3, ld35, ld37, h0, h1, h2, hs'.len, show ∀ h, callS Tryz.prog hs ks 70 [.agg [.int .i64 c, s]] h = some [(.ret (.bool false), h)] from fun h => hc ▸ f70 hs' (by omega) h]
      generalize hf : at1 _ 25 (V.int IntKind.i64 0) = f
      obtain ⟨f', nb', g', d', e1⟩ := fin f 1 _ [] (by rw [← hf]; simp [at1_if]) (by rw [← hf]; simp [at1_if]) (by rw [← hf]; simp [at1_if]) (by rw [← hf]; simp [at1_if]) (by decide) (atB_same _ _ _)
      rw [e1]
      simp (disch := first | decide | omega)
    · simp (disch := first | decide | omega) [lvl, ld3, ld35, ld37, h0, h1, h2, hs'.len]
      generalize hf : at1 _ 25 (V.int IntKind.i64 0) = f
      obtain ⟨f', nb', g', d', e1⟩ := fin f 1 _ [] (by rw [← hf]; simp [at1_if]) (by rw [← hf]; simp [at1_if]) (by rw [← hf]; simp [at1_if]) (by rw [← hf]; simp [at1_if]) (by decide) (atB_same _ _ _)
      rw [e1]
      simp (disch := first | decide | omega)
  obtain ⟨h1, hc⟩ := key
  exact callS_of (args' := [lvl c s]) (lvl_seal hs') (lvl_pure hs') rfl rfl hc (fun n => rfl) h
end
end Go.Proofs.YtelobjfgghlkfaaGreat.El

/- Levels: what is valid for the reference; limits. -/
set_option linter.unusedSimpArgs false
set_option linter.unusedVariables false
namespace Go.Proofs.YtelobjfgghlkfaaGreat.El
open Go Go.Ae
attribute [local simp] setF thenV_normal thenV_ret thenV_exit blockV_normal blockV_ret blockV_exit stepV_v stepV_some stepV_drop skipS_S thenC_ret S_get S_h S_dfs apply_v apply_wr apply_nw apply_wn at1_if atB_same atB_ne n_mkH get_mkH set_mkB new_mkB wantB_bool wantB_undef condV_true condV_false valS binV_int binV_str intOp_add intOp_sub intOp_eql intOp_neq intOp_lss intOp_leq intOp_gtr intOp_geq strOp_eql strOp_neq xPick_bool xUn_not ext_0 ext_1 ext_2 ext_3 addrAdd_ptr addrAdd_iptr xNilCheck_ptr build_C List.map cells_agg cells_int cells_bool cells_str cells_ptr cells_nils cells_vs xStore xLoad V.ones one_int one_bool one_str one_ptr one_nils one_vs splice resultVs_cons resultVs_nil resultV_tmp resultV_cell cellV_ptr resV_one resV_two resV_nil callOf_func callOf_yield callX_func thenC_noret stepD_vS stepD_rdS stepD_wrS stepD_nwS okD_nil okD_rd okD_wr okD_ww okD_rw okD_bef max2 eqBoolTT cond_true cond_false List.nil_append List.cons_append
attribute [local simp] k42_ret k42_nrm k42_c k42_0_c k42_0_0 k42_0_1 k42_0_2 k42_0_3 k42_1_c k42_2_c k42_4_c k42_4_0 k42_4_1 k42_4_2 k42_4_3 k42_4_4 k42_5_c k42_7_c k42_8_c k42_8_0 k42_8_1 k42_9_c k42_10_c k42_12_c k42_13_c k42_11_c k42_14_c k42_16_c k42_17_c k42_17_0 k42_17_1 k42_17_2 k42_17_3 k42_17_4 k42_18_c k42_19_c k42_19_0 k42_19_1 k42_19_2 k42_19_3 k42_20_c k42_21_c k42_23_c k42_23_0 k42_23_1 k42_23_2 k42_23_3 k42_24_c k42_22_c k42_15_c k42_15_0 k42_15_1 k42_15_2 k42_3_c k42_25_c k42_27_c k42_27_0 k42_27_1 k42_27_2 k42_27_3 k42_28_c k42_29_c k42_31_c k42_31_0 k42_31_1 k42_31_2 k42_31_3 k42_32_c k42_30_c k42_26_c k42_33_c k42_35_c k42_35_0 k42_35_1 k42_35_2 k42_36_c k42_37_c k42_37_0 k42_37_1 k42_37_2 k42_38_c k42_34_c k42_39_c k42_39_0 k42_39_1 k42_39_2 k42_39_3 k42_40_c k44_ret k44_nrm k44_c k44_0_c k44_0_0 k44_0_1 k44_0_2 k44_1_c k44_2_c k44_4_c k44_4_0 k44_4_1 k44_4_2 k44_4_3 k44_4_4 k44_4_5 k44_4_6 k44_4_7 k44_4_8 k44_5_c k44_6_c k44_8_c k44_8_0 k44_8_1 k44_9_c k44_7_c k44_3_c k44_10_c k44_12_c k44_12_0 k44_12_1 k44_13_c k44_15_c k44_16_c k44_18_c k44_18_0 k44_18_1 k44_18_2 k44_18_3 k44_18_4 k44_18_5 k44_19_c k44_20_c k44_21_c k44_17_c k44_22_c k44_24_c k44_25_c k44_25_0 k44_25_1 k44_25_2 k44_25_3 k44_25_4 k44_25_5 k44_25_6 k44_25_7 k44_26_c k44_27_c k44_29_c k44_29_0 k44_29_1 k44_29_2 k44_29_3 k44_29_4 k44_29_5 k44_29_6 k44_29_7 k44_29_8 k44_29_9 k44_29_10 k44_29_11 k44_29_12 k44_29_13 k44_29_14 k44_29_15 k44_29_16 k44_29_17 k44_29_18 k44_30_c k44_31_c k44_33_c k44_33_0 k44_33_1 k44_34_c k44_32_c k44_28_c k44_35_c k44_37_c k44_37_0 k44_37_1 k44_37_2 k44_37_3 k44_37_4 k44_37_5 k44_37_6 k44_37_7 k44_37_8 k44_37_9 k44_37_10 k44_37_11 k44_37_12 k44_37_13 k44_37_14 k44_38_c k44_39_c k44_41_c k44_41_0 k44_41_1 k44_42_c k44_40_c k44_36_c k44_43_c k44_43_0 k44_43_1 k44_43_2 k44_43_3 k44_43_4 k44_43_5 k44_43_6 k44_43_7 k44_43_8 k44_43_9 k44_43_10 k44_44_c k44_45_c k44_47_c k44_47_0 k44_47_1 k44_48_c k44_46_c k44_23_c k44_23_0 k44_23_1 k44_23_2 k44_23_3 k44_11_c k44_49_c k44_49_0 k44_49_1 k44_50_c
section
variable {c : Int} {l : List (Int × Int)} {s : V}

theorem cov_not (h : cov c l = false) {x : Int × Int} (hx : x ∈ l) : ¬ x.2 ≥ c := by
  unfold cov at h
  rw [List.any_eq_false] at h
  have := h x hx
  simpa using this

theorem l44 (hg' : Good c l) (hs' : IsVs l s) : ∀ (m i : Nat) (I : Int) (f : Nat → V) (nb : Nat) (g : Nat → Blk) (d : List Nat), l.length - i = m → i ≤ l.length → I = i →
    f 1 = .ptr 0 0 → f 3 = .int .i64 I → 0 < nb → g 0 = .row 0 [.int .i64 c, s] →
    AeEnds 67 (fun e f' _ _ => e = .exit 0) (Qc Tryz.prog hs ks ⟨44, none⟩ k44_14 (S 67 f [] (mkH nb g d))) := by
  intro m
  have hlen := hg'.len
  induction m with
  | zero =>
    intro i I f nb g d hm hi hI h1 h3 hr hg
    have hIL : ¬ I < (l.length : Int) := by omega
    rw [k44_14_l]
    simp (disch := first | decide | omega) [h1, h3, hg, hs'.len, ld35, hIL]
    exact AeEnds.mk rfl
  | succ m ih =>
    intro i I f nb g d hm hi hI h1 h3 hr hg
    have hi' : i < l.length := by omega
    have hlt : I < (l.length : Int) := by omega
    obtain ⟨t, ht, hd⟩ := vcs_head hi'
    have hld : loadV Tryz.prog 74 (vcs (l.drop i)) = some (.agg [.int .i64 (l[i]).1, .int .i64 (l[i]).2]) := by
      rw [ht, ld74]; simp
    obtain ⟨v1, v2, v3, v4⟩ := hg'.vars _ (List.getElem_mem hi')
    have v1' : ¬ (l[i]).1 < -65536 := by omega
    have v2' : ¬ 8 ≤ (l[i]).1 := by omega
    have v3' : ¬ (l[i]).2 < 0 := by omega
    have v4' : ¬ 100 < (l[i]).2 := by omega
    have n0 : nb ≠ 0 := by omega
    have n1 : 0 ≠ nb := by omega
    rw [k44_14_l]
    by_cases hc : 0 < c
    · have hcv : ¬ c ≤ (l[i]).2 := cov_not (hg'.cov hc) (List.getElem_mem hi')
      by_cases hi0 : i = 0
      · have hI0 : ¬ 0 < I := by omega
        simp (disch := first | decide | omega) [h1, h3, hg, hlt, hs'.len, hs'.idx' hI hi', hld, ld3, ld35, sz74, v1', v2', v3', v4', hI0, hc, hcv, wrap_i64]
        refine ih (i + 1) (I + 1) _ (nb + 1) _ _ (by omega) (by omega) (by omega) ?_ ?_ (by omega) ?_
        all_goals simp (disch := first | decide | omega) [at1_if, atB_same, atB_ne, h1, h3, hg]
      · have hj : i - 1 < l.length := by omega
        have hI0 : 0 < I := by omega
        obtain ⟨t', ht', hd'⟩ := vcs_head hj
        have hdec : ¬ (l[i]).1 ≤ (l[i-1]).1 := by have := hg'.lt (show i - 1 < i by omega) hi'; omega
        simp (disch := first | decide | omega) [h1, h3, hg, hlt, hs'.len, hs'.idx' hI hi', hs'.idx' (show I - 1 = ((i - 1 : Nat) : Int) by omega) hj, hld, ht', ld3, ld35, sz74, v1', v2', v3', v4', hI0, hdec, hc, hcv, wrap_i64]
        refine ih (i + 1) (I + 1) _ (nb + 1) _ _ (by omega) (by omega) (by omega) ?_ ?_ (by omega) ?_
        all_goals simp (disch := first | decide | omega) [at1_if, atB_same, atB_ne, h1, h3, hg]
    · by_cases hi0 : i = 0
      · have hI0 : ¬ 0 < I := by omega
        simp (disch := first | decide | omega) [h1, h3, hg, hlt, hs'.len, hs'.idx' hI hi', hld, ld3, ld35, sz74, v1', v2', v3', v4', hI0, hc, wrap_i64]
        refine ih (i + 1) (I + 1) _ (nb + 1) _ _ (by omega) (by omega) (by omega) ?_ ?_ (by omega) ?_
        all_goals simp (disch := first | decide | omega) [at1_if, atB_same, atB_ne, h1, h3, hg]
      · have hj : i - 1 < l.length := by omega
        have hI0 : 0 < I := by omega
        obtain ⟨t', ht', hd'⟩ := vcs_head hj
        have hdec : ¬ (l[i]).1 ≤ (l[i-1]).1 := by have := hg'.lt (show i - 1 < i by omega) hi'; omega
        simp (disch := first | decide | omega) [h1, h3, hg, hlt, hs'.len, hs'.idx' hI hi', hs'.idx' (show I - 1 = ((i - 1 : Nat) : Int) by omega) hj, hld, ht', ld3, ld35, sz74, v1', v2', v3', v4', hI0, hdec, hc, wrap_i64]
        refine ih (i + 1) (I + 1) _ (nb + 1) _ _ (by omega) (by omega) (by omega) ?_ ?_ (by omega) ?_
        all_goals simp (disch := first | decide | omega) [at1_if, atB_same, atB_ne, h1, h3, hg]

theorem f44 (hg' : Good c l) (hs' : IsVs l s) (h : H) : callS Tryz.prog hs ks 44 [lvl c s] h = some [(.ret (.bool true), h)] := by
  have key : ∃ h1, (EV Tryz.prog hs ks).call 44 [lvl c s] H.empty = some [(.ret (.bool true), h1)] := by
    rw [k44_fun _ (by simp), empty_mkH]
    have h0 : ¬ c < 0 := by have := hg'.c0; omega
    have h1 : ¬ 100 < c := by have := hg'.c1; omega
    simp (disch := first | decide | omega) [lvl, ld3, ld35, h0, h1]
    generalize hf : at1 _ 3 (V.int IntKind.i64 0) = f
    obtain ⟨e, f', nb', g', d', e1, rfl⟩ := l44 hg' hs' l.length 0 0 f 1 (atB (fun _ => Blk.gone) 0 (.row 0 [.int .i64 c, s])) [] (by omega) (by omega) rfl (by rw [← hf]; simp [at1_if]) (by rw [← hf]; simp [at1_if]) (by decide) (atB_same _ _ _)
    rw [e1]
    simp (disch := first | decide | omega)
  obtain ⟨h1, hc⟩ := key
  exact callS_of (args' := [lvl c s]) (lvl_seal hs') (lvl_pure hs') rfl rfl hc (fun n => rfl) h

theorem l42 (hg' : ∀ x ∈ l, x.2 ≤ 100) (hln : l.length < 1099511627776) (hs' : IsVs l s) : ∀ (m i : Nat) (I : Int) (f : Nat → V) (nb : Nat) (g : Nat → Blk) (d : List Nat), l.length - i = m → i ≤ l.length → I = i →
    f 1 = .ptr 0 0 → f 2 = .ptr 1 0 → f 7 = s → f 8 = .int .i64 l.length → f 9 = .int .i64 I → 1 < nb → g 0 = .row 0 [.int .i64 c, s] → g 1 = .row 0 [.int .i64 0, .nils] →
    AeEnds 26 (fun e f' nb' g' => e = .exit 0 ∧ f' 1 = .ptr 0 0 ∧ f' 2 = .ptr 1 0 ∧ 1 < nb' ∧ g' 0 = .row 0 [.int .i64 c, s] ∧ g' 1 = .row 0 [.int .i64 0, .nils]) (Qc Tryz.prog hs ks ⟨42, none⟩ k42_6 (S 26 f [] (mkH nb g d))) := by
  intro m
  induction m with
  | zero =>
    intro i I f nb g d hm hi hI h1 h2 h7 h8 h9 hr hg hgb
    have hIL : ¬ I < (l.length : Int) := by omega
    rw [k42_6_l]
    simp (disch := first | decide | omega) [h1, h7, h8, h9, hIL]
    exact AeEnds.mk ⟨rfl, by simp [at1_if, h1], by simp [at1_if, h2], hr, hg, hgb⟩
  | succ m ih =>
    intro i I f nb g d hm hi hI h1 h2 h7 h8 h9 hr hg hgb
    have hi' : i < l.length := by omega
    have hlt : I < (l.length : Int) := by omega
    obtain ⟨t, ht, hd⟩ := vcs_head hi'
    have hld : loadV Tryz.prog 74 (vcs (l.drop i)) = some (.agg [.int .i64 (l[i]).1, .int .i64 (l[i]).2]) := by
      rw [ht, ld74]; simp
    have v4' : ¬ 100 < (l[i]).2 := by have := hg' _ (List.getElem_mem hi'); omega
    rw [k42_6_l]
    simp (disch := first | decide | omega) [h1, h7, h8, h9, hlt, hs'.idx' hI hi', hld, ld3, sz74, v4', wrap_i64]
    refine ih (i + 1) (I + 1) _ (nb + 1) _ _ (by omega) (by omega) (by omega) ?_ ?_ ?_ ?_ ?_ (by omega) ?_ ?_
    all_goals simp (disch := first | decide | omega) [at1_if, atB_same, atB_ne, h1, h2, h7, h8, h9, hg, hgb]

theorem frz_int {h : H} {k : Nat} {t : IntKind} {x : Int} : Ae.freeze h (k + 1) (.int t x) = some (.int t x) := rfl
theorem frz_lvl (hs' : IsVs l s) (c : Int) (k : Nat) (h : H) : Ae.freeze h (k + 2) (lvl c s) = some (lvl c s) := by
  show (mapO (Ae.freeze h (k + 1)) [.int .i64 c, s]).map V.agg = _
  simp only [mapO, frz_int, hs'.frz, Option.map_some]; rfl
theorem ret_lvl (hs' : IsVs l s) (c e : Int) (n : Nat) (h : H) : retok n h (.tup [lvl c s, .int .i64 e]) = some { v := .tup [lvl c s, .int .i64 e] } := by
  have h1 : Ae.freeze h 60 (.tup [lvl c s, .int .i64 e]) = some (.tup [lvl c s, .int .i64 e]) := by
    show (mapO (Ae.freeze h (58 + 1)) [lvl c s, .int .i64 e]).map V.tup = _
    simp only [mapO, frz_int, frz_lvl hs', Option.map_some]
  show (match Ae.freeze h 60 (.tup [lvl c s, .int .i64 e]) with | some v => some (Eff.mk v [] [] [] false) | none => none) = _
  rw [h1]
theorem ret_lvl1 (hs' : IsVs l s) (c : Int) (n : Nat) (h : H) : retok n h (lvl c s) = some { v := lvl c s } := by
  have h1 : Ae.freeze h 60 (lvl c s) = some (lvl c s) := frz_lvl hs' c 58 h
  show (match Ae.freeze h 60 (lvl c s) with | some v => some (Eff.mk v [] [] [] false) | none => none) = _
  rw [h1]

/-- The constant that is not superfluous. -/
def lim (c : Int) (l : List (Int × Int)) : Int := if cov c l then 0 else c

theorem f42 (hg' : ∀ x ∈ l, x.2 ≤ 100) (hln : l.length < 1099511627776) (hc : c ≤ 100) {s0 : V} (hs0 : s0.shut = s) (hs' : IsVs l s) (h : H) : callS Tryz.prog hs ks 42 [lvl c s0] h = some [(.ret (.tup [lvl (lim c l) s, .int .i64 0]), h)] := by
  have key : ∃ h1, (EV Tryz.prog hs ks).call 42 [lvl c s] H.empty = some [(.ret (.tup [lvl (lim c l) s, .int .i64 0]), h1)] := by
    rw [k42_fun _ (by simp), empty_mkH]
    have h1 : ¬ 100 < c := by omega
    simp (disch := first | decide | omega) [lvl, ld3, ld35, hs'.len]
    generalize hf : at1 _ 9 (V.int IntKind.i64 0) = f
    obtain ⟨e, f', nb', g', d', e1, rfl, a1, a2, a3, a4, a5⟩ := l42 hg' hln hs' l.length 0 0 f 2 (atB (atB (fun _ => Blk.gone) 0 (.row 0 [.int .i64 c, s])) 1 (.row 0 [.int .i64 0, .nils])) [] (by omega) (by omega) rfl (by rw [← hf]; simp [at1_if]) (by rw [← hf]; simp [at1_if]) (by rw [← hf]; simp [at1_if]) (by rw [← hf]; simp [at1_if]) (by rw [← hf]; simp [at1_if]) (by decide) rfl rfl
    rw [e1]
    have hcv : ∀ h, callS Tryz.prog hs ks 70 [.agg [.int .i64 c, s]] h = some [(.ret (.bool (cov c l)), h)] := fun h => f70 hs' hln h
    cases hb : cov c l with
    | true =>
      rw [hb] at hcv
      simp (disch := first | decide | omega) [a1, a2, a4, a5, ld3, ld35, ld37, sz3, sz37, h1, hcv, lim, hb, hs'.one]
    | false =>
      rw [hb] at hcv
      simp (disch := first | decide | omega) [a1, a2, a4, a5, ld3, ld35, ld37, sz3, sz37, h1, hcv, lim, hb, hs'.one]
  obtain ⟨h1, hc⟩ := key
  refine callS_of (args' := [lvl c s]) (by show [V.agg [_, s0.shut]] = _; rw [hs0]; rfl) (lvl_pure hs') rfl rfl hc (fun n => ?_) h
  exact ret_lvl hs' _ _ n h1
end
end Go.Proofs.YtelobjfgghlkfaaGreat.El
