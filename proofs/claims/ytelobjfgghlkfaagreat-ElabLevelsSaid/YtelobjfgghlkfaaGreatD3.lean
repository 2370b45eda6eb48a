import Derived.Test.YtelobjfgghlkfaaGreatD1
import Derived.KernelRfl
set_option linter.all false
noncomputable section
namespace Go.Proofs.YtelobjfgghlkfaaGreat.El
open Go Go.Ae
variable (r : Option Nat) (dn : List (Nat × Foot)) (s : St)
/-! function 38 -/
noncomputable def k38 : Code := Tryz.f38.body.getD .skip
theorem k38_fun (args : List V) (ha : args.length ≤ 14) (h : H) : (EV Tryz.prog hs ks).call 38 args h = endsV Tryz.prog hs ks Tryz.f38 (Qc Tryz.prog hs ks ⟨38, none⟩ k38 (S 14 (setF args 0 fun _ => undefV) [] h)) := EV_fun Tryz.func38 (by kernel_rfl) (by kernel_rfl) (by decide) ha h
theorem k38_ret (f : Nat → V) (h : H) : endsV Tryz.prog hs ks Tryz.f38 (some [(.ret, S 14 f [] h)]) = resV (resultVs Tryz.prog (S 14 f [] h) [.cell 2 37, .tmp 3]) h := ends_one (by kernel_rfl) (Or.inl rfl) _ _
theorem k38_nrm (f : Nat → V) (h : H) : endsV Tryz.prog hs ks Tryz.f38 (some [(.normal, S 14 f [] h)]) = resV (resultVs Tryz.prog (S 14 f [] h) [.cell 2 37, .tmp 3]) h := ends_one (by kernel_rfl) (Or.inr rfl) _ _
noncomputable def k38_0 : Code := codeA k38
noncomputable def k38_1 : Code := codeB k38
theorem k38_c : Qc Tryz.prog hs ks ⟨38, r⟩ k38 s = thenV (Qc Tryz.prog hs ks ⟨38, r⟩ k38_0 s) (Qc Tryz.prog hs ks ⟨38, r⟩ k38_1) := Qc_seq (a := k38_0) (b := k38_1) (by kernel_rfl) _ _
theorem k38_0_c : Qc Tryz.prog hs ks ⟨38, r⟩ k38_0 s = Qo Tryz.prog hs ks k38_0 0 ⟨38, r⟩ s := Qc_region (id := 0) (ops := regOps k38_0) (by kernel_rfl) (by kernel_rfl) s
theorem k38_0_0 : Qo Tryz.prog hs ks k38_0 0 ⟨38, r⟩ s = stepV s (some 2) (some { v := .ptr s.h.n 0, nw := [.row 0 [.int .i64 (0), .nils]] }) (Qo Tryz.prog hs ks k38_0 1 ⟨38, r⟩) := oR (by kernel_rfl)
theorem k38_0_1 : Qo Tryz.prog hs ks k38_0 1 ⟨38, r⟩ s = stepV s (some 3) (some { v := (.int .i64 (0)) }) (Qo Tryz.prog hs ks k38_0 2 ⟨38, r⟩) := oR (by kernel_rfl)
theorem k38_0_2 : Qo Tryz.prog hs ks k38_0 2 ⟨38, r⟩ s = some [(.normal, s)] := Qo_end (by kernel_rfl) s
noncomputable def k38_2 : Code := codeA k38_1
noncomputable def k38_3 : Code := codeB k38_1
theorem k38_1_c : Qc Tryz.prog hs ks ⟨38, r⟩ k38_1 s = thenV (Qc Tryz.prog hs ks ⟨38, r⟩ k38_2 s) (Qc Tryz.prog hs ks ⟨38, r⟩ k38_3) := Qc_seq (a := k38_2) (b := k38_3) (by kernel_rfl) _ _
noncomputable def k38_4 : Code := codeA k38_2
theorem k38_2_c : Qc Tryz.prog hs ks ⟨38, r⟩ k38_2 s = blockV 0 (Qc Tryz.prog hs ks ⟨38, r⟩ k38_4 s) := Qc_block (b := k38_4) (by kernel_rfl) _ _
noncomputable def k38_5 : Code := codeA k38_4
noncomputable def k38_6 : Code := codeB k38_4
theorem k38_4_c : Qc Tryz.prog hs ks ⟨38, r⟩ k38_4 s = thenV (Qc Tryz.prog hs ks ⟨38, r⟩ k38_5 s) (Qc Tryz.prog hs ks ⟨38, r⟩ k38_6) := Qc_seq (a := k38_5) (b := k38_6) (by kernel_rfl) _ _
theorem k38_5_c : Qc Tryz.prog hs ks ⟨38, r⟩ k38_5 s = Qo Tryz.prog hs ks k38_5 0 ⟨38, r⟩ s := Qc_region (id := 1) (ops := regOps k38_5) (by kernel_rfl) (by kernel_rfl) s
theorem k38_5_0 : Qo Tryz.prog hs ks k38_5 0 ⟨38, r⟩ s = stepV s (some 5) (some { v := (s.regs.get undefV 0) }) (Qo Tryz.prog hs ks k38_5 1 ⟨38, r⟩) := oR (by kernel_rfl)
theorem k38_5_1 : Qo Tryz.prog hs ks k38_5 1 ⟨38, r⟩ s = stepV s (some 6) (val (binV Tryz.prog .lss 3 false true (s.regs.get undefV 5) (.int .i64 (0)))) (Qo Tryz.prog hs ks k38_5 2 ⟨38, r⟩) := oR (by kernel_rfl)
theorem k38_5_2 : Qo Tryz.prog hs ks k38_5 2 ⟨38, r⟩ s = stepV s (some 4) (some { v := (s.regs.get undefV 6) }) (Qo Tryz.prog hs ks k38_5 3 ⟨38, r⟩) := oR (by kernel_rfl)
theorem k38_5_3 : Qo Tryz.prog hs ks k38_5 3 ⟨38, r⟩ s = some [(.normal, s)] := Qo_end (by kernel_rfl) s
noncomputable def k38_7 : Code := codeA k38_6
noncomputable def k38_8 : Code := codeB k38_6
theorem k38_6_c : Qc Tryz.prog hs ks ⟨38, r⟩ k38_6 s = condV (s.regs.get undefV 4) (Qc Tryz.prog hs ks ⟨38, r⟩ k38_7) (Qc Tryz.prog hs ks ⟨38, r⟩ k38_8) s := Qc_cond (t := 4) (a := k38_7) (b := k38_8) (by kernel_rfl) _ _
noncomputable def k38_9 : Code := codeA k38_7
noncomputable def k38_10 : Code := codeB k38_7
theorem k38_7_c : Qc Tryz.prog hs ks ⟨38, r⟩ k38_7 s = thenV (Qc Tryz.prog hs ks ⟨38, r⟩ k38_9 s) (Qc Tryz.prog hs ks ⟨38, r⟩ k38_10) := Qc_seq (a := k38_9) (b := k38_10) (by kernel_rfl) _ _
theorem k38_9_c : Qc Tryz.prog hs ks ⟨38, r⟩ k38_9 s = Qo Tryz.prog hs ks k38_9 0 ⟨38, r⟩ s := Qc_region (id := 2) (ops := regOps k38_9) (by kernel_rfl) (by kernel_rfl) s
theorem k38_9_0 : Qo Tryz.prog hs ks k38_9 0 ⟨38, r⟩ s = stepV s (some 7) (val (build Tryz.prog 37 [])) (Qo Tryz.prog hs ks k38_9 1 ⟨38, r⟩) := oR (by kernel_rfl)
theorem k38_9_1 : Qo Tryz.prog hs ks k38_9 1 ⟨38, r⟩ s = stepV s none (xStore Tryz.prog 37 s.h.get (s.regs.get undefV 2) (s.regs.get undefV 7)) (Qo Tryz.prog hs ks k38_9 2 ⟨38, r⟩) := oR (by kernel_rfl)
theorem k38_9_2 : Qo Tryz.prog hs ks k38_9 2 ⟨38, r⟩ s = stepV s (some 3) (some { v := (.int .i64 (2)) }) (Qo Tryz.prog hs ks k38_9 3 ⟨38, r⟩) := oR (by kernel_rfl)
theorem k38_9_3 : Qo Tryz.prog hs ks k38_9 3 ⟨38, r⟩ s = some [(.normal, s)] := Qo_end (by kernel_rfl) s
theorem k38_10_c : Qc Tryz.prog hs ks ⟨38, r⟩ k38_10 s = some [(.ret, s)] := Qc_ret (by kernel_rfl) _ _
noncomputable def k38_11 : Code := codeA k38_8
noncomputable def k38_12 : Code := codeB k38_8
theorem k38_8_c : Qc Tryz.prog hs ks ⟨38, r⟩ k38_8 s = thenV (Qc Tryz.prog hs ks ⟨38, r⟩ k38_11 s) (Qc Tryz.prog hs ks ⟨38, r⟩ k38_12) := Qc_seq (a := k38_11) (b := k38_12) (by kernel_rfl) _ _
theorem k38_11_c : Qc Tryz.prog hs ks ⟨38, r⟩ k38_11 s = Qo Tryz.prog hs ks k38_11 0 ⟨38, r⟩ s := Qc_region (id := 3) (ops := regOps k38_11) (by kernel_rfl) (by kernel_rfl) s
theorem k38_11_0 : Qo Tryz.prog hs ks k38_11 0 ⟨38, r⟩ s = stepV s (some 9) (some { v := (s.regs.get undefV 0) }) (Qo Tryz.prog hs ks k38_11 1 ⟨38, r⟩) := oR (by kernel_rfl)
theorem k38_11_1 : Qo Tryz.prog hs ks k38_11 1 ⟨38, r⟩ s = stepV s (some 10) (val (binV Tryz.prog .gtr 3 false true (s.regs.get undefV 9) (.int .i64 (100)))) (Qo Tryz.prog hs ks k38_11 2 ⟨38, r⟩) := oR (by kernel_rfl)
theorem k38_11_2 : Qo Tryz.prog hs ks k38_11 2 ⟨38, r⟩ s = stepV s (some 8) (some { v := (s.regs.get undefV 10) }) (Qo Tryz.prog hs ks k38_11 3 ⟨38, r⟩) := oR (by kernel_rfl)
theorem k38_11_3 : Qo Tryz.prog hs ks k38_11 3 ⟨38, r⟩ s = some [(.normal, s)] := Qo_end (by kernel_rfl) s
noncomputable def k38_13 : Code := codeA k38_12
noncomputable def k38_14 : Code := codeB k38_12
theorem k38_12_c : Qc Tryz.prog hs ks ⟨38, r⟩ k38_12 s = condV (s.regs.get undefV 8) (Qc Tryz.prog hs ks ⟨38, r⟩ k38_13) (Qc Tryz.prog hs ks ⟨38, r⟩ k38_14) s := Qc_cond (t := 8) (a := k38_13) (b := k38_14) (by kernel_rfl) _ _
noncomputable def k38_15 : Code := codeA k38_13
noncomputable def k38_16 : Code := codeB k38_13
theorem k38_13_c : Qc Tryz.prog hs ks ⟨38, r⟩ k38_13 s = thenV (Qc Tryz.prog hs ks ⟨38, r⟩ k38_15 s) (Qc Tryz.prog hs ks ⟨38, r⟩ k38_16) := Qc_seq (a := k38_15) (b := k38_16) (by kernel_rfl) _ _
theorem k38_15_c : Qc Tryz.prog hs ks ⟨38, r⟩ k38_15 s = Qo Tryz.prog hs ks k38_15 0 ⟨38, r⟩ s := Qc_region (id := 4) (ops := regOps k38_15) (by kernel_rfl) (by kernel_rfl) s
theorem k38_15_0 : Qo Tryz.prog hs ks k38_15 0 ⟨38, r⟩ s = stepV s (some 11) (val (build Tryz.prog 37 [])) (Qo Tryz.prog hs ks k38_15 1 ⟨38, r⟩) := oR (by kernel_rfl)
theorem k38_15_1 : Qo Tryz.prog hs ks k38_15 1 ⟨38, r⟩ s = stepV s none (xStore Tryz.prog 37 s.h.get (s.regs.get undefV 2) (s.regs.get undefV 11)) (Qo Tryz.prog hs ks k38_15 2 ⟨38, r⟩) := oR (by kernel_rfl)
theorem k38_15_2 : Qo Tryz.prog hs ks k38_15 2 ⟨38, r⟩ s = stepV s (some 3) (some { v := (.int .i64 (15)) }) (Qo Tryz.prog hs ks k38_15 3 ⟨38, r⟩) := oR (by kernel_rfl)
theorem k38_15_3 : Qo Tryz.prog hs ks k38_15 3 ⟨38, r⟩ s = some [(.normal, s)] := Qo_end (by kernel_rfl) s
theorem k38_16_c : Qc Tryz.prog hs ks ⟨38, r⟩ k38_16 s = some [(.ret, s)] := Qc_ret (by kernel_rfl) _ _
theorem k38_14_c : Qc Tryz.prog hs ks ⟨38, r⟩ k38_14 s = some [(.normal, s)] := Qc_skip (by kernel_rfl) _ _
noncomputable def k38_17 : Code := codeA k38_3
noncomputable def k38_18 : Code := codeB k38_3
theorem k38_3_c : Qc Tryz.prog hs ks ⟨38, r⟩ k38_3 s = thenV (Qc Tryz.prog hs ks ⟨38, r⟩ k38_17 s) (Qc Tryz.prog hs ks ⟨38, r⟩ k38_18) := Qc_seq (a := k38_17) (b := k38_18) (by kernel_rfl) _ _
theorem k38_17_c : Qc Tryz.prog hs ks ⟨38, r⟩ k38_17 s = Qo Tryz.prog hs ks k38_17 0 ⟨38, r⟩ s := Qc_region (id := 5) (ops := regOps k38_17) (by kernel_rfl) (by kernel_rfl) s
theorem k38_17_0 : Qo Tryz.prog hs ks k38_17 0 ⟨38, r⟩ s = stepV s (some 12) (some { v := (s.regs.get undefV 0) }) (Qo Tryz.prog hs ks k38_17 1 ⟨38, r⟩) := oR (by kernel_rfl)
theorem k38_17_1 : Qo Tryz.prog hs ks k38_17 1 ⟨38, r⟩ s = stepV s (some 13) (val (build Tryz.prog 37 [(0, (s.regs.get undefV 12))])) (Qo Tryz.prog hs ks k38_17 2 ⟨38, r⟩) := oR (by kernel_rfl)
theorem k38_17_2 : Qo Tryz.prog hs ks k38_17 2 ⟨38, r⟩ s = stepV s none (xStore Tryz.prog 37 s.h.get (s.regs.get undefV 2) (s.regs.get undefV 13)) (Qo Tryz.prog hs ks k38_17 3 ⟨38, r⟩) := oR (by kernel_rfl)
theorem k38_17_3 : Qo Tryz.prog hs ks k38_17 3 ⟨38, r⟩ s = stepV s (some 3) (some { v := (.int .i64 (0)) }) (Qo Tryz.prog hs ks k38_17 4 ⟨38, r⟩) := oR (by kernel_rfl)
theorem k38_17_4 : Qo Tryz.prog hs ks k38_17 4 ⟨38, r⟩ s = some [(.normal, s)] := Qo_end (by kernel_rfl) s
theorem k38_18_c : Qc Tryz.prog hs ks ⟨38, r⟩ k38_18 s = some [(.ret, s)] := Qc_ret (by kernel_rfl) _ _
/-! function 39 -/
noncomputable def k39 : Code := Tryz.f39.body.getD .skip
theorem k39_fun (args : List V) (ha : args.length ≤ 27) (h : H) : (EV Tryz.prog hs ks).call 39 args h = endsV Tryz.prog hs ks Tryz.f39 (Qc Tryz.prog hs ks ⟨39, none⟩ k39 (S 27 (setF args 0 fun _ => undefV) [] h)) := EV_fun Tryz.func39 (by kernel_rfl) (by kernel_rfl) (by decide) ha h
theorem k39_ret (f : Nat → V) (h : H) : endsV Tryz.prog hs ks Tryz.f39 (some [(.ret, S 27 f [] h)]) = resV (resultVs Tryz.prog (S 27 f [] h) [.cell 4 37, .tmp 5]) h := ends_one (by kernel_rfl) (Or.inl rfl) _ _
theorem k39_nrm (f : Nat → V) (h : H) : endsV Tryz.prog hs ks Tryz.f39 (some [(.normal, S 27 f [] h)]) = resV (resultVs Tryz.prog (S 27 f [] h) [.cell 4 37, .tmp 5]) h := ends_one (by kernel_rfl) (Or.inr rfl) _ _
noncomputable def k39_0 : Code := codeA k39
noncomputable def k39_1 : Code := codeB k39
theorem k39_c : Qc Tryz.prog hs ks ⟨39, r⟩ k39 s = thenV (Qc Tryz.prog hs ks ⟨39, r⟩ k39_0 s) (Qc Tryz.prog hs ks ⟨39, r⟩ k39_1) := Qc_seq (a := k39_0) (b := k39_1) (by kernel_rfl) _ _
theorem k39_0_c : Qc Tryz.prog hs ks ⟨39, r⟩ k39_0 s = Qo Tryz.prog hs ks k39_0 0 ⟨39, r⟩ s := Qc_region (id := 0) (ops := regOps k39_0) (by kernel_rfl) (by kernel_rfl) s
theorem k39_0_0 : Qo Tryz.prog hs ks k39_0 0 ⟨39, r⟩ s = stepV s (some 4) (some { v := .ptr s.h.n 0, nw := [.row 0 [.int .i64 (0), .nils]] }) (Qo Tryz.prog hs ks k39_0 1 ⟨39, r⟩) := oR (by kernel_rfl)
theorem k39_0_1 : Qo Tryz.prog hs ks k39_0 1 ⟨39, r⟩ s = stepV s (some 5) (some { v := (.int .i64 (0)) }) (Qo Tryz.prog hs ks k39_0 2 ⟨39, r⟩) := oR (by kernel_rfl)
theorem k39_0_2 : Qo Tryz.prog hs ks k39_0 2 ⟨39, r⟩ s = some [(.normal, s)] := Qo_end (by kernel_rfl) s
noncomputable def k39_2 : Code := codeA k39_1
noncomputable def k39_3 : Code := codeB k39_1
theorem k39_1_c : Qc Tryz.prog hs ks ⟨39, r⟩ k39_1 s = thenV (Qc Tryz.prog hs ks ⟨39, r⟩ k39_2 s) (Qc Tryz.prog hs ks ⟨39, r⟩ k39_3) := Qc_seq (a := k39_2) (b := k39_3) (by kernel_rfl) _ _
noncomputable def k39_4 : Code := codeA k39_2
theorem k39_2_c : Qc Tryz.prog hs ks ⟨39, r⟩ k39_2 s = blockV 0 (Qc Tryz.prog hs ks ⟨39, r⟩ k39_4 s) := Qc_block (b := k39_4) (by kernel_rfl) _ _
noncomputable def k39_5 : Code := codeA k39_4
noncomputable def k39_6 : Code := codeB k39_4
theorem k39_4_c : Qc Tryz.prog hs ks ⟨39, r⟩ k39_4 s = thenV (Qc Tryz.prog hs ks ⟨39, r⟩ k39_5 s) (Qc Tryz.prog hs ks ⟨39, r⟩ k39_6) := Qc_seq (a := k39_5) (b := k39_6) (by kernel_rfl) _ _
theorem k39_5_c : Qc Tryz.prog hs ks ⟨39, r⟩ k39_5 s = Qo Tryz.prog hs ks k39_5 0 ⟨39, r⟩ s := Qc_region (id := 1) (ops := regOps k39_5) (by kernel_rfl) (by kernel_rfl) s
theorem k39_5_0 : Qo Tryz.prog hs ks k39_5 0 ⟨39, r⟩ s = stepV s (some 7) (some { v := (s.regs.get undefV 0) }) (Qo Tryz.prog hs ks k39_5 1 ⟨39, r⟩) := oR (by kernel_rfl)
theorem k39_5_1 : Qo Tryz.prog hs ks k39_5 1 ⟨39, r⟩ s = stepV s (some 8) (val (binV Tryz.prog .lss 3 false true (s.regs.get undefV 7) (.int .i64 (-65536)))) (Qo Tryz.prog hs ks k39_5 2 ⟨39, r⟩) := oR (by kernel_rfl)
theorem k39_5_2 : Qo Tryz.prog hs ks k39_5 2 ⟨39, r⟩ s = stepV s (some 9) (some { v := (s.regs.get undefV 8) }) (Qo Tryz.prog hs ks k39_5 3 ⟨39, r⟩) := oR (by kernel_rfl)
theorem k39_5_3 : Qo Tryz.prog hs ks k39_5 3 ⟨39, r⟩ s = if wantB (s.regs.get undefV 9) false = true then stepV s (some 10) (some { v := (s.regs.get undefV 0) }) (Qo Tryz.prog hs ks k39_5 4 ⟨39, r⟩) else Qo Tryz.prog hs ks k39_5 4 ⟨39, r⟩ (skipS s (some 10)) := oI (by kernel_rfl)
theorem k39_5_4 : Qo Tryz.prog hs ks k39_5 4 ⟨39, r⟩ s = if wantB (s.regs.get undefV 9) false = true then stepV s (some 11) (val (binV Tryz.prog .gtr 3 false true (s.regs.get undefV 10) (.int .i64 (7)))) (Qo Tryz.prog hs ks k39_5 5 ⟨39, r⟩) else Qo Tryz.prog hs ks k39_5 5 ⟨39, r⟩ (skipS s (some 11)) := oI (by kernel_rfl)
theorem k39_5_5 : Qo Tryz.prog hs ks k39_5 5 ⟨39, r⟩ s = stepV s (some 12) (xPick (s.regs.get undefV 9) (.bool true) (s.regs.get undefV 11)) (Qo Tryz.prog hs ks k39_5 6 ⟨39, r⟩) := oR (by kernel_rfl)
theorem k39_5_6 : Qo Tryz.prog hs ks k39_5 6 ⟨39, r⟩ s = stepV s (some 13) (some { v := (s.regs.get undefV 12) }) (Qo Tryz.prog hs ks k39_5 7 ⟨39, r⟩) := oR (by kernel_rfl)
theorem k39_5_7 : Qo Tryz.prog hs ks k39_5 7 ⟨39, r⟩ s = if wantB (s.regs.get undefV 13) false = true then stepV s (some 14) (some { v := (s.regs.get undefV 1) }) (Qo Tryz.prog hs ks k39_5 8 ⟨39, r⟩) else Qo Tryz.prog hs ks k39_5 8 ⟨39, r⟩ (skipS s (some 14)) := oI (by kernel_rfl)
theorem k39_5_8 : Qo Tryz.prog hs ks k39_5 8 ⟨39, r⟩ s = if wantB (s.regs.get undefV 13) false = true then stepV s (some 15) (val (binV Tryz.prog .lss 3 false true (s.regs.get undefV 14) (.int .i64 (0)))) (Qo Tryz.prog hs ks k39_5 9 ⟨39, r⟩) else Qo Tryz.prog hs ks k39_5 9 ⟨39, r⟩ (skipS s (some 15)) := oI (by kernel_rfl)
theorem k39_5_9 : Qo Tryz.prog hs ks k39_5 9 ⟨39, r⟩ s = stepV s (some 16) (xPick (s.regs.get undefV 13) (.bool true) (s.regs.get undefV 15)) (Qo Tryz.prog hs ks k39_5 10 ⟨39, r⟩) := oR (by kernel_rfl)
theorem k39_5_10 : Qo Tryz.prog hs ks k39_5 10 ⟨39, r⟩ s = stepV s (some 6) (some { v := (s.regs.get undefV 16) }) (Qo Tryz.prog hs ks k39_5 11 ⟨39, r⟩) := oR (by kernel_rfl)
theorem k39_5_11 : Qo Tryz.prog hs ks k39_5 11 ⟨39, r⟩ s = some [(.normal, s)] := Qo_end (by kernel_rfl) s
noncomputable def k39_7 : Code := codeA k39_6
noncomputable def k39_8 : Code := codeB k39_6
theorem k39_6_c : Qc Tryz.prog hs ks ⟨39, r⟩ k39_6 s = condV (s.regs.get undefV 6) (Qc Tryz.prog hs ks ⟨39, r⟩ k39_7) (Qc Tryz.prog hs ks ⟨39, r⟩ k39_8) s := Qc_cond (t := 6) (a := k39_7) (b := k39_8) (by kernel_rfl) _ _
noncomputable def k39_9 : Code := codeA k39_7
noncomputable def k39_10 : Code := codeB k39_7
theorem k39_7_c : Qc Tryz.prog hs ks ⟨39, r⟩ k39_7 s = thenV (Qc Tryz.prog hs ks ⟨39, r⟩ k39_9 s) (Qc Tryz.prog hs ks ⟨39, r⟩ k39_10) := Qc_seq (a := k39_9) (b := k39_10) (by kernel_rfl) _ _
theorem k39_9_c : Qc Tryz.prog hs ks ⟨39, r⟩ k39_9 s = Qo Tryz.prog hs ks k39_9 0 ⟨39, r⟩ s := Qc_region (id := 2) (ops := regOps k39_9) (by kernel_rfl) (by kernel_rfl) s
theorem k39_9_0 : Qo Tryz.prog hs ks k39_9 0 ⟨39, r⟩ s = stepV s (some 17) (val (build Tryz.prog 37 [])) (Qo Tryz.prog hs ks k39_9 1 ⟨39, r⟩) := oR (by kernel_rfl)
theorem k39_9_1 : Qo Tryz.prog hs ks k39_9 1 ⟨39, r⟩ s = stepV s none (xStore Tryz.prog 37 s.h.get (s.regs.get undefV 4) (s.regs.get undefV 17)) (Qo Tryz.prog hs ks k39_9 2 ⟨39, r⟩) := oR (by kernel_rfl)
theorem k39_9_2 : Qo Tryz.prog hs ks k39_9 2 ⟨39, r⟩ s = stepV s (some 5) (some { v := (.int .i64 (2)) }) (Qo Tryz.prog hs ks k39_9 3 ⟨39, r⟩) := oR (by kernel_rfl)
theorem k39_9_3 : Qo Tryz.prog hs ks k39_9 3 ⟨39, r⟩ s = some [(.normal, s)] := Qo_end (by kernel_rfl) s
theorem k39_10_c : Qc Tryz.prog hs ks ⟨39, r⟩ k39_10 s = some [(.ret, s)] := Qc_ret (by kernel_rfl) _ _
noncomputable def k39_11 : Code := codeA k39_8
noncomputable def k39_12 : Code := codeB k39_8
theorem k39_8_c : Qc Tryz.prog hs ks ⟨39, r⟩ k39_8 s = thenV (Qc Tryz.prog hs ks ⟨39, r⟩ k39_11 s) (Qc Tryz.prog hs ks ⟨39, r⟩ k39_12) := Qc_seq (a := k39_11) (b := k39_12) (by kernel_rfl) _ _
theorem k39_11_c : Qc Tryz.prog hs ks ⟨39, r⟩ k39_11 s = Qo Tryz.prog hs ks k39_11 0 ⟨39, r⟩ s := Qc_region (id := 3) (ops := regOps k39_11) (by kernel_rfl) (by kernel_rfl) s
theorem k39_11_0 : Qo Tryz.prog hs ks k39_11 0 ⟨39, r⟩ s = stepV s (some 19) (some { v := (s.regs.get undefV 1) }) (Qo Tryz.prog hs ks k39_11 1 ⟨39, r⟩) := oR (by kernel_rfl)
theorem k39_11_1 : Qo Tryz.prog hs ks k39_11 1 ⟨39, r⟩ s = stepV s (some 20) (val (binV Tryz.prog .gtr 3 false true (s.regs.get undefV 19) (.int .i64 (100)))) (Qo Tryz.prog hs ks k39_11 2 ⟨39, r⟩) := oR (by kernel_rfl)
theorem k39_11_2 : Qo Tryz.prog hs ks k39_11 2 ⟨39, r⟩ s = stepV s (some 18) (some { v := (s.regs.get undefV 20) }) (Qo Tryz.prog hs ks k39_11 3 ⟨39, r⟩) := oR (by kernel_rfl)
theorem k39_11_3 : Qo Tryz.prog hs ks k39_11 3 ⟨39, r⟩ s = some [(.normal, s)] := Qo_end (by kernel_rfl) s
noncomputable def k39_13 : Code := codeA k39_12
noncomputable def k39_14 : Code := codeB k39_12
theorem k39_12_c : Qc Tryz.prog hs ks ⟨39, r⟩ k39_12 s = condV (s.regs.get undefV 18) (Qc Tryz.prog hs ks ⟨39, r⟩ k39_13) (Qc Tryz.prog hs ks ⟨39, r⟩ k39_14) s := Qc_cond (t := 18) (a := k39_13) (b := k39_14) (by kernel_rfl) _ _
noncomputable def k39_15 : Code := codeA k39_13
noncomputable def k39_16 : Code := codeB k39_13
theorem k39_13_c : Qc Tryz.prog hs ks ⟨39, r⟩ k39_13 s = thenV (Qc Tryz.prog hs ks ⟨39, r⟩ k39_15 s) (Qc Tryz.prog hs ks ⟨39, r⟩ k39_16) := Qc_seq (a := k39_15) (b := k39_16) (by kernel_rfl) _ _
theorem k39_15_c : Qc Tryz.prog hs ks ⟨39, r⟩ k39_15 s = Qo Tryz.prog hs ks k39_15 0 ⟨39, r⟩ s := Qc_region (id := 4) (ops := regOps k39_15) (by kernel_rfl) (by kernel_rfl) s
theorem k39_15_0 : Qo Tryz.prog hs ks k39_15 0 ⟨39, r⟩ s = stepV s (some 21) (val (build Tryz.prog 37 [])) (Qo Tryz.prog hs ks k39_15 1 ⟨39, r⟩) := oR (by kernel_rfl)
theorem k39_15_1 : Qo Tryz.prog hs ks k39_15 1 ⟨39, r⟩ s = stepV s none (xStore Tryz.prog 37 s.h.get (s.regs.get undefV 4) (s.regs.get undefV 21)) (Qo Tryz.prog hs ks k39_15 2 ⟨39, r⟩) := oR (by kernel_rfl)
theorem k39_15_2 : Qo Tryz.prog hs ks k39_15 2 ⟨39, r⟩ s = stepV s (some 5) (some { v := (.int .i64 (15)) }) (Qo Tryz.prog hs ks k39_15 3 ⟨39, r⟩) := oR (by kernel_rfl)
theorem k39_15_3 : Qo Tryz.prog hs ks k39_15 3 ⟨39, r⟩ s = some [(.normal, s)] := Qo_end (by kernel_rfl) s
theorem k39_16_c : Qc Tryz.prog hs ks ⟨39, r⟩ k39_16 s = some [(.ret, s)] := Qc_ret (by kernel_rfl) _ _
theorem k39_14_c : Qc Tryz.prog hs ks ⟨39, r⟩ k39_14 s = some [(.normal, s)] := Qc_skip (by kernel_rfl) _ _
noncomputable def k39_17 : Code := codeA k39_3
noncomputable def k39_18 : Code := codeB k39_3
theorem k39_3_c : Qc Tryz.prog hs ks ⟨39, r⟩ k39_3 s = thenV (Qc Tryz.prog hs ks ⟨39, r⟩ k39_17 s) (Qc Tryz.prog hs ks ⟨39, r⟩ k39_18) := Qc_seq (a := k39_17) (b := k39_18) (by kernel_rfl) _ _
theorem k39_17_c : Qc Tryz.prog hs ks ⟨39, r⟩ k39_17 s = Qo Tryz.prog hs ks k39_17 0 ⟨39, r⟩ s := Qc_region (id := 5) (ops := regOps k39_17) (by kernel_rfl) (by kernel_rfl) s
theorem k39_17_0 : Qo Tryz.prog hs ks k39_17 0 ⟨39, r⟩ s = stepV s (some 22) (some { v := (s.regs.get undefV 0) }) (Qo Tryz.prog hs ks k39_17 1 ⟨39, r⟩) := oR (by kernel_rfl)
theorem k39_17_1 : Qo Tryz.prog hs ks k39_17 1 ⟨39, r⟩ s = stepV s (some 23) (some { v := (s.regs.get undefV 1) }) (Qo Tryz.prog hs ks k39_17 2 ⟨39, r⟩) := oR (by kernel_rfl)
theorem k39_17_2 : Qo Tryz.prog hs ks k39_17 2 ⟨39, r⟩ s = stepV s (some 24) (val (build Tryz.prog 74 [(0, (s.regs.get undefV 22)), (1, (s.regs.get undefV 23))])) (Qo Tryz.prog hs ks k39_17 3 ⟨39, r⟩) := oR (by kernel_rfl)
theorem k39_17_3 : Qo Tryz.prog hs ks k39_17 3 ⟨39, r⟩ s = stepV s (some 25) (litS Tryz.prog false 35 1 [(0, (s.regs.get undefV 24))] s.h.n) (Qo Tryz.prog hs ks k39_17 4 ⟨39, r⟩) := oR (by kernel_rfl)
theorem k39_17_4 : Qo Tryz.prog hs ks k39_17 4 ⟨39, r⟩ s = stepV s (some 26) (val (build Tryz.prog 37 [(1, (s.regs.get undefV 25))])) (Qo Tryz.prog hs ks k39_17 5 ⟨39, r⟩) := oR (by kernel_rfl)
theorem k39_17_5 : Qo Tryz.prog hs ks k39_17 5 ⟨39, r⟩ s = stepV s none (xStore Tryz.prog 37 s.h.get (s.regs.get undefV 4) (s.regs.get undefV 26)) (Qo Tryz.prog hs ks k39_17 6 ⟨39, r⟩) := oR (by kernel_rfl)
theorem k39_17_6 : Qo Tryz.prog hs ks k39_17 6 ⟨39, r⟩ s = stepV s (some 5) (some { v := (.int .i64 (0)) }) (Qo Tryz.prog hs ks k39_17 7 ⟨39, r⟩) := oR (by kernel_rfl)
theorem k39_17_7 : Qo Tryz.prog hs ks k39_17 7 ⟨39, r⟩ s = some [(.normal, s)] := Qo_end (by kernel_rfl) s
theorem k39_18_c : Qc Tryz.prog hs ks ⟨39, r⟩ k39_18 s = some [(.ret, s)] := Qc_ret (by kernel_rfl) _ _
/-! function 40 -/
noncomputable def k40 : Code := Tryz.f40.body.getD .skip
theorem k40_fun (args : List V) (ha : args.length ≤ 65) (h : H) : (EV Tryz.prog hs ks).call 40 args h = endsV Tryz.prog hs ks Tryz.f40 (Qc Tryz.prog hs ks ⟨40, none⟩ k40 (S 65 (setF args 0 fun _ => undefV) [] h)) := EV_fun Tryz.func40 (by kernel_rfl) (by kernel_rfl) (by decide) ha h
theorem k40_ret (f : Nat → V) (h : H) : endsV Tryz.prog hs ks Tryz.f40 (some [(.ret, S 65 f [] h)]) = resV (resultVs Tryz.prog (S 65 f [] h) [.tmp 2]) h := ends_one (by kernel_rfl) (Or.inl rfl) _ _
theorem k40_nrm (f : Nat → V) (h : H) : endsV Tryz.prog hs ks Tryz.f40 (some [(.normal, S 65 f [] h)]) = resV (resultVs Tryz.prog (S 65 f [] h) [.tmp 2]) h := ends_one (by kernel_rfl) (Or.inr rfl) _ _
noncomputable def k40_0 : Code := codeA k40
noncomputable def k40_1 : Code := codeB k40
theorem k40_c : Qc Tryz.prog hs ks ⟨40, r⟩ k40 s = thenV (Qc Tryz.prog hs ks ⟨40, r⟩ k40_0 s) (Qc Tryz.prog hs ks ⟨40, r⟩ k40_1) := Qc_seq (a := k40_0) (b := k40_1) (by kernel_rfl) _ _
theorem k40_0_c : Qc Tryz.prog hs ks ⟨40, r⟩ k40_0 s = Qo Tryz.prog hs ks k40_0 0 ⟨40, r⟩ s := Qc_region (id := 0) (ops := regOps k40_0) (by kernel_rfl) (by kernel_rfl) s
theorem k40_0_0 : Qo Tryz.prog hs ks k40_0 0 ⟨40, r⟩ s = stepV s (some 1) (some { v := .ptr s.h.n 0, nw := [.row 0 (V.cells (s.regs.get undefV 0))] }) (Qo Tryz.prog hs ks k40_0 1 ⟨40, r⟩) := oR (by kernel_rfl)
theorem k40_0_1 : Qo Tryz.prog hs ks k40_0 1 ⟨40, r⟩ s = stepV s (some 2) (some { v := (.bool false) }) (Qo Tryz.prog hs ks k40_0 2 ⟨40, r⟩) := oR (by kernel_rfl)
theorem k40_0_2 : Qo Tryz.prog hs ks k40_0 2 ⟨40, r⟩ s = some [(.normal, s)] := Qo_end (by kernel_rfl) s
noncomputable def k40_2 : Code := codeA k40_1
noncomputable def k40_3 : Code := codeB k40_1
theorem k40_1_c : Qc Tryz.prog hs ks ⟨40, r⟩ k40_1 s = thenV (Qc Tryz.prog hs ks ⟨40, r⟩ k40_2 s) (Qc Tryz.prog hs ks ⟨40, r⟩ k40_3) := Qc_seq (a := k40_2) (b := k40_3) (by kernel_rfl) _ _
noncomputable def k40_4 : Code := codeA k40_2
noncomputable def k40_5 : Code := codeB k40_2
theorem k40_2_c : Qc Tryz.prog hs ks ⟨40, r⟩ k40_2 s = thenV (Qc Tryz.prog hs ks ⟨40, r⟩ k40_4 s) (Qc Tryz.prog hs ks ⟨40, r⟩ k40_5) := Qc_seq (a := k40_4) (b := k40_5) (by kernel_rfl) _ _
theorem k40_4_c : Qc Tryz.prog hs ks ⟨40, r⟩ k40_4 s = Qo Tryz.prog hs ks k40_4 0 ⟨40, r⟩ s := Qc_region (id := 1) (ops := regOps k40_4) (by kernel_rfl) (by kernel_rfl) s
theorem k40_4_0 : Qo Tryz.prog hs ks k40_4 0 ⟨40, r⟩ s = stepV s (some 5) (val (addrAdd (s.regs.get undefV 1) 0)) (Qo Tryz.prog hs ks k40_4 1 ⟨40, r⟩) := oR (by kernel_rfl)
theorem k40_4_1 : Qo Tryz.prog hs ks k40_4 1 ⟨40, r⟩ s = stepV s (some 6) (xLoad Tryz.prog 3 s.h.get (s.regs.get undefV 5)) (Qo Tryz.prog hs ks k40_4 2 ⟨40, r⟩) := oR (by kernel_rfl)
theorem k40_4_2 : Qo Tryz.prog hs ks k40_4 2 ⟨40, r⟩ s = stepV s (some 7) (val (binV Tryz.prog .lss 3 false true (s.regs.get undefV 6) (.int .i64 (0)))) (Qo Tryz.prog hs ks k40_4 3 ⟨40, r⟩) := oR (by kernel_rfl)
theorem k40_4_3 : Qo Tryz.prog hs ks k40_4 3 ⟨40, r⟩ s = stepV s (some 8) (some { v := (s.regs.get undefV 7) }) (Qo Tryz.prog hs ks k40_4 4 ⟨40, r⟩) := oR (by kernel_rfl)
theorem k40_4_4 : Qo Tryz.prog hs ks k40_4 4 ⟨40, r⟩ s = if wantB (s.regs.get undefV 8) false = true then stepV s (some 9) (val (addrAdd (s.regs.get undefV 1) 0)) (Qo Tryz.prog hs ks k40_4 5 ⟨40, r⟩) else Qo Tryz.prog hs ks k40_4 5 ⟨40, r⟩ (skipS s (some 9)) := oI (by kernel_rfl)
theorem k40_4_5 : Qo Tryz.prog hs ks k40_4 5 ⟨40, r⟩ s = if wantB (s.regs.get undefV 8) false = true then stepV s (some 10) (xLoad Tryz.prog 3 s.h.get (s.regs.get undefV 9)) (Qo Tryz.prog hs ks k40_4 6 ⟨40, r⟩) else Qo Tryz.prog hs ks k40_4 6 ⟨40, r⟩ (skipS s (some 10)) := oI (by kernel_rfl)
theorem k40_4_6 : Qo Tryz.prog hs ks k40_4 6 ⟨40, r⟩ s = if wantB (s.regs.get undefV 8) false = true then stepV s (some 11) (val (binV Tryz.prog .gtr 3 false true (s.regs.get undefV 10) (.int .i64 (100)))) (Qo Tryz.prog hs ks k40_4 7 ⟨40, r⟩) else Qo Tryz.prog hs ks k40_4 7 ⟨40, r⟩ (skipS s (some 11)) := oI (by kernel_rfl)
theorem k40_4_7 : Qo Tryz.prog hs ks k40_4 7 ⟨40, r⟩ s = stepV s (some 12) (xPick (s.regs.get undefV 8) (.bool true) (s.regs.get undefV 11)) (Qo Tryz.prog hs ks k40_4 8 ⟨40, r⟩) := oR (by kernel_rfl)
theorem k40_4_8 : Qo Tryz.prog hs ks k40_4 8 ⟨40, r⟩ s = stepV s (some 13) (some { v := (s.regs.get undefV 12) }) (Qo Tryz.prog hs ks k40_4 9 ⟨40, r⟩) := oR (by kernel_rfl)
theorem k40_4_9 : Qo Tryz.prog hs ks k40_4 9 ⟨40, r⟩ s = if wantB (s.regs.get undefV 13) false = true then stepV s (some 14) (val (addrAdd (s.regs.get undefV 1) 0)) (Qo Tryz.prog hs ks k40_4 10 ⟨40, r⟩) else Qo Tryz.prog hs ks k40_4 10 ⟨40, r⟩ (skipS s (some 14)) := oI (by kernel_rfl)
theorem k40_4_10 : Qo Tryz.prog hs ks k40_4 10 ⟨40, r⟩ s = if wantB (s.regs.get undefV 13) false = true then stepV s (some 15) (xLoad Tryz.prog 3 s.h.get (s.regs.get undefV 14)) (Qo Tryz.prog hs ks k40_4 11 ⟨40, r⟩) else Qo Tryz.prog hs ks k40_4 11 ⟨40, r⟩ (skipS s (some 15)) := oI (by kernel_rfl)
theorem k40_4_11 : Qo Tryz.prog hs ks k40_4 11 ⟨40, r⟩ s = if wantB (s.regs.get undefV 13) false = true then stepV s (some 16) (val (binV Tryz.prog .gtr 3 false true (s.regs.get undefV 15) (.int .i64 (0)))) (Qo Tryz.prog hs ks k40_4 12 ⟨40, r⟩) else Qo Tryz.prog hs ks k40_4 12 ⟨40, r⟩ (skipS s (some 16)) := oI (by kernel_rfl)
theorem k40_4_12 : Qo Tryz.prog hs ks k40_4 12 ⟨40, r⟩ s = if wantB (s.regs.get undefV 13) false = true then stepV s (some 17) (some { v := (s.regs.get undefV 16) }) (Qo Tryz.prog hs ks k40_4 13 ⟨40, r⟩) else Qo Tryz.prog hs ks k40_4 13 ⟨40, r⟩ (skipS s (some 17)) := oI (by kernel_rfl)
theorem k40_4_13 : Qo Tryz.prog hs ks k40_4 13 ⟨40, r⟩ s = if wantB (s.regs.get undefV 17) true = true then stepV s (some 18) (xLoad Tryz.prog 37 s.h.get (s.regs.get undefV 1)) (Qo Tryz.prog hs ks k40_4 14 ⟨40, r⟩) else Qo Tryz.prog hs ks k40_4 14 ⟨40, r⟩ (skipS s (some 18)) := oI (by kernel_rfl)
theorem k40_4_14 : Qo Tryz.prog hs ks k40_4 14 ⟨40, r⟩ s = if wantB (s.regs.get undefV 17) true = true then thenC (some 19) s (callS Tryz.prog hs ks 70 [(s.regs.get undefV 18)] s.h) (Qo Tryz.prog hs ks k40_4 15 ⟨40, r⟩) else Qo Tryz.prog hs ks k40_4 15 ⟨40, r⟩ (skipS s (some 19)) := cI (by kernel_rfl)
theorem k40_4_15 : Qo Tryz.prog hs ks k40_4 15 ⟨40, r⟩ s = if wantB (s.regs.get undefV 13) false = true then stepV s (some 20) (xPick (s.regs.get undefV 17) (s.regs.get undefV 19) (.bool false)) (Qo Tryz.prog hs ks k40_4 16 ⟨40, r⟩) else Qo Tryz.prog hs ks k40_4 16 ⟨40, r⟩ (skipS s (some 20)) := oI (by kernel_rfl)
theorem k40_4_16 : Qo Tryz.prog hs ks k40_4 16 ⟨40, r⟩ s = stepV s (some 21) (xPick (s.regs.get undefV 13) (.bool true) (s.regs.get undefV 20)) (Qo Tryz.prog hs ks k40_4 17 ⟨40, r⟩) := oR (by kernel_rfl)
theorem k40_4_17 : Qo Tryz.prog hs ks k40_4 17 ⟨40, r⟩ s = some [(.normal, s)] := Qo_end (by kernel_rfl) s
noncomputable def k40_6 : Code := codeA k40_5
noncomputable def k40_7 : Code := codeB k40_5
theorem k40_5_c : Qc Tryz.prog hs ks ⟨40, r⟩ k40_5 s = condV (s.regs.get undefV 21) (Qc Tryz.prog hs ks ⟨40, r⟩ k40_6) (Qc Tryz.prog hs ks ⟨40, r⟩ k40_7) s := Qc_cond (t := 21) (a := k40_6) (b := k40_7) (by kernel_rfl) _ _
noncomputable def k40_8 : Code := codeA k40_6
noncomputable def k40_9 : Code := codeB k40_6
theorem k40_6_c : Qc Tryz.prog hs ks ⟨40, r⟩ k40_6 s = thenV (Qc Tryz.prog hs ks ⟨40, r⟩ k40_8 s) (Qc Tryz.prog hs ks ⟨40, r⟩ k40_9) := Qc_seq (a := k40_8) (b := k40_9) (by kernel_rfl) _ _
theorem k40_8_c : Qc Tryz.prog hs ks ⟨40, r⟩ k40_8 s = Qo Tryz.prog hs ks k40_8 0 ⟨40, r⟩ s := Qc_region (id := 2) (ops := regOps k40_8) (by kernel_rfl) (by kernel_rfl) s
theorem k40_8_0 : Qo Tryz.prog hs ks k40_8 0 ⟨40, r⟩ s = stepV s (some 2) (some { v := (.bool false) }) (Qo Tryz.prog hs ks k40_8 1 ⟨40, r⟩) := oR (by kernel_rfl)
theorem k40_8_1 : Qo Tryz.prog hs ks k40_8 1 ⟨40, r⟩ s = some [(.normal, s)] := Qo_end (by kernel_rfl) s
theorem k40_9_c : Qc Tryz.prog hs ks ⟨40, r⟩ k40_9 s = some [(.ret, s)] := Qc_ret (by kernel_rfl) _ _
theorem k40_7_c : Qc Tryz.prog hs ks ⟨40, r⟩ k40_7 s = some [(.normal, s)] := Qc_skip (by kernel_rfl) _ _
noncomputable def k40_10 : Code := codeA k40_3
noncomputable def k40_11 : Code := codeB k40_3
theorem k40_3_c : Qc Tryz.prog hs ks ⟨40, r⟩ k40_3 s = thenV (Qc Tryz.prog hs ks ⟨40, r⟩ k40_10 s) (Qc Tryz.prog hs ks ⟨40, r⟩ k40_11) := Qc_seq (a := k40_10) (b := k40_11) (by kernel_rfl) _ _
noncomputable def k40_12 : Code := codeA k40_10
noncomputable def k40_13 : Code := codeB k40_10
theorem k40_10_c : Qc Tryz.prog hs ks ⟨40, r⟩ k40_10 s = thenV (Qc Tryz.prog hs ks ⟨40, r⟩ k40_12 s) (Qc Tryz.prog hs ks ⟨40, r⟩ k40_13) := Qc_seq (a := k40_12) (b := k40_13) (by kernel_rfl) _ _
theorem k40_12_c : Qc Tryz.prog hs ks ⟨40, r⟩ k40_12 s = Qo Tryz.prog hs ks k40_12 0 ⟨40, r⟩ s := Qc_region (id := 3) (ops := regOps k40_12) (by kernel_rfl) (by kernel_rfl) s
theorem k40_12_0 : Qo Tryz.prog hs ks k40_12 0 ⟨40, r⟩ s = stepV s (some 22) (val (addrAdd (s.regs.get undefV 1) 1)) (Qo Tryz.prog hs ks k40_12 1 ⟨40, r⟩) := oR (by kernel_rfl)
theorem k40_12_1 : Qo Tryz.prog hs ks k40_12 1 ⟨40, r⟩ s = stepV s (some 23) (xLoad Tryz.prog 35 s.h.get (s.regs.get undefV 22)) (Qo Tryz.prog hs ks k40_12 2 ⟨40, r⟩) := oR (by kernel_rfl)
theorem k40_12_2 : Qo Tryz.prog hs ks k40_12 2 ⟨40, r⟩ s = stepV s (some 24) (builtinV Tryz.prog false s.h.get s.h.n .len [35] [(s.regs.get undefV 23)]) (Qo Tryz.prog hs ks k40_12 3 ⟨40, r⟩) := oR (by kernel_rfl)
theorem k40_12_3 : Qo Tryz.prog hs ks k40_12 3 ⟨40, r⟩ s = stepV s (some 25) (some { v := (.int .i64 (0)) }) (Qo Tryz.prog hs ks k40_12 4 ⟨40, r⟩) := oR (by kernel_rfl)
theorem k40_12_4 : Qo Tryz.prog hs ks k40_12 4 ⟨40, r⟩ s = some [(.normal, s)] := Qo_end (by kernel_rfl) s
noncomputable def k40_14 : Code := codeA k40_13
theorem k40_13_c : Qc Tryz.prog hs ks ⟨40, r⟩ k40_13 s = blockV 0 (Qc Tryz.prog hs ks ⟨40, r⟩ k40_14 s) := Qc_block (b := k40_14) (by kernel_rfl) _ _
noncomputable def k40_15 : Code := codeA k40_14
theorem k40_14_l : Qc Tryz.prog hs ks ⟨40, r⟩ k40_14 s = thenV (Qc Tryz.prog hs ks ⟨40, r⟩ k40_15 s) (Qc Tryz.prog hs ks ⟨40, r⟩ k40_14) := Qc_loop (b := k40_15) (by kernel_rfl) _ _
noncomputable def k40_16 : Code := codeA k40_15
noncomputable def k40_17 : Code := codeB k40_15
theorem k40_15_c : Qc Tryz.prog hs ks ⟨40, r⟩ k40_15 s = thenV (Qc Tryz.prog hs ks ⟨40, r⟩ k40_16 s) (Qc Tryz.prog hs ks ⟨40, r⟩ k40_17) := Qc_seq (a := k40_16) (b := k40_17) (by kernel_rfl) _ _
theorem k40_16_c : Qc Tryz.prog hs ks ⟨40, r⟩ k40_16 s = Qo Tryz.prog hs ks k40_16 0 ⟨40, r⟩ s := Qc_region (id := 4) (ops := regOps k40_16) (by kernel_rfl) (by kernel_rfl) s
theorem k40_16_0 : Qo Tryz.prog hs ks k40_16 0 ⟨40, r⟩ s = stepV s (some 26) (val (binV Tryz.prog .lss 3 false false (s.regs.get undefV 25) (s.regs.get undefV 24))) (Qo Tryz.prog hs ks k40_16 1 ⟨40, r⟩) := oR (by kernel_rfl)
theorem k40_16_1 : Qo Tryz.prog hs ks k40_16 1 ⟨40, r⟩ s = some [(.normal, s)] := Qo_end (by kernel_rfl) s
noncomputable def k40_18 : Code := codeA k40_17
noncomputable def k40_19 : Code := codeB k40_17
theorem k40_17_c : Qc Tryz.prog hs ks ⟨40, r⟩ k40_17 s = thenV (Qc Tryz.prog hs ks ⟨40, r⟩ k40_18 s) (Qc Tryz.prog hs ks ⟨40, r⟩ k40_19) := Qc_seq (a := k40_18) (b := k40_19) (by kernel_rfl) _ _
noncomputable def k40_20 : Code := codeA k40_18
noncomputable def k40_21 : Code := codeB k40_18
theorem k40_18_c : Qc Tryz.prog hs ks ⟨40, r⟩ k40_18 s = condV (s.regs.get undefV 26) (Qc Tryz.prog hs ks ⟨40, r⟩ k40_20) (Qc Tryz.prog hs ks ⟨40, r⟩ k40_21) s := Qc_cond (t := 26) (a := k40_20) (b := k40_21) (by kernel_rfl) _ _
theorem k40_20_c : Qc Tryz.prog hs ks ⟨40, r⟩ k40_20 s = some [(.normal, s)] := Qc_skip (by kernel_rfl) _ _
theorem k40_21_c : Qc Tryz.prog hs ks ⟨40, r⟩ k40_21 s = some [(.exit 0, s)] := Qc_exit (by kernel_rfl) _ _
noncomputable def k40_22 : Code := codeA k40_19
noncomputable def k40_23 : Code := codeB k40_19
theorem k40_19_c : Qc Tryz.prog hs ks ⟨40, r⟩ k40_19 s = thenV (Qc Tryz.prog hs ks ⟨40, r⟩ k40_22 s) (Qc Tryz.prog hs ks ⟨40, r⟩ k40_23) := Qc_seq (a := k40_22) (b := k40_23) (by kernel_rfl) _ _
noncomputable def k40_24 : Code := codeA k40_22
theorem k40_22_c : Qc Tryz.prog hs ks ⟨40, r⟩ k40_22 s = blockV 1 (Qc Tryz.prog hs ks ⟨40, r⟩ k40_24 s) := Qc_block (b := k40_24) (by kernel_rfl) _ _
noncomputable def k40_25 : Code := codeA k40_24
noncomputable def k40_26 : Code := codeB k40_24
theorem k40_24_c : Qc Tryz.prog hs ks ⟨40, r⟩ k40_24 s = thenV (Qc Tryz.prog hs ks ⟨40, r⟩ k40_25 s) (Qc Tryz.prog hs ks ⟨40, r⟩ k40_26) := Qc_seq (a := k40_25) (b := k40_26) (by kernel_rfl) _ _
theorem k40_25_c : Qc Tryz.prog hs ks ⟨40, r⟩ k40_25 s = Qo Tryz.prog hs ks k40_25 0 ⟨40, r⟩ s := Qc_region (id := 5) (ops := regOps k40_25) (by kernel_rfl) (by kernel_rfl) s
theorem k40_25_0 : Qo Tryz.prog hs ks k40_25 0 ⟨40, r⟩ s = stepV s (some 27) (some { v := (s.regs.get undefV 25) }) (Qo Tryz.prog hs ks k40_25 1 ⟨40, r⟩) := oR (by kernel_rfl)
theorem k40_25_1 : Qo Tryz.prog hs ks k40_25 1 ⟨40, r⟩ s = stepV s (some 28) (val (indexAddr Tryz.prog 35 (s.regs.get undefV 23) (s.regs.get undefV 25))) (Qo Tryz.prog hs ks k40_25 2 ⟨40, r⟩) := oR (by kernel_rfl)
theorem k40_25_2 : Qo Tryz.prog hs ks k40_25 2 ⟨40, r⟩ s = stepV s (some 29) (xLoad Tryz.prog 74 s.h.get (s.regs.get undefV 28)) (Qo Tryz.prog hs ks k40_25 3 ⟨40, r⟩) := oR (by kernel_rfl)
theorem k40_25_3 : Qo Tryz.prog hs ks k40_25 3 ⟨40, r⟩ s = stepV s (some 4) (some { v := .ptr s.h.n 0, nw := [.row 0 [.int .i64 (0), .int .i64 (0)]] }) (Qo Tryz.prog hs ks k40_25 4 ⟨40, r⟩) := oR (by kernel_rfl)
theorem k40_25_4 : Qo Tryz.prog hs ks k40_25 4 ⟨40, r⟩ s = stepV s (some 3) (some { v := (s.regs.get undefV 27) }) (Qo Tryz.prog hs ks k40_25 5 ⟨40, r⟩) := oR (by kernel_rfl)
theorem k40_25_5 : Qo Tryz.prog hs ks k40_25 5 ⟨40, r⟩ s = stepV s none (xStore Tryz.prog 74 s.h.get (s.regs.get undefV 4) (s.regs.get undefV 29)) (Qo Tryz.prog hs ks k40_25 6 ⟨40, r⟩) := oR (by kernel_rfl)
theorem k40_25_6 : Qo Tryz.prog hs ks k40_25 6 ⟨40, r⟩ s = some [(.normal, s)] := Qo_end (by kernel_rfl) s
noncomputable def k40_27 : Code := codeA k40_26
noncomputable def k40_28 : Code := codeB k40_26
theorem k40_26_c : Qc Tryz.prog hs ks ⟨40, r⟩ k40_26 s = thenV (Qc Tryz.prog hs ks ⟨40, r⟩ k40_27 s) (Qc Tryz.prog hs ks ⟨40, r⟩ k40_28) := Qc_seq (a := k40_27) (b := k40_28) (by kernel_rfl) _ _
noncomputable def k40_27_bef : List Nat := [0, 1, 3, 7, 15, 31, 63, 127, 255, 511, 1023, 2047, 4095, 8191, 16383, 32767, 65535, 131071, 262143, 524287, 1048575, 2097151, 4194303, 8388607, 4194303, 20971519, 67108863, 134217727, 268435455, 4194303, 541065215, 2147483647, 4294967295, 8589934591]
theorem k40_27_c : Qc Tryz.prog hs ks ⟨40, r⟩ k40_27 s = Qd Tryz.prog hs ks k40_27 k40_27_bef 0 ⟨40, r⟩ [] s := Qc_draw (id := 6) (ops := regOps k40_27) (by kernel_rfl) (by kernel_rfl) (by kernel_rfl) (by kernel_rfl) s
theorem k40_27_0 : Qd Tryz.prog hs ks k40_27 k40_27_bef 0 ⟨40, r⟩ dn s = stepD s (some 30) 0 k40_27_bef dn (val (addrAdd (s.regs.get undefV 4) 0)) (Qd Tryz.prog hs ks k40_27 k40_27_bef 1 ⟨40, r⟩) := dR (by kernel_rfl)
theorem k40_27_1 : Qd Tryz.prog hs ks k40_27 k40_27_bef 1 ⟨40, r⟩ dn s = stepD s (some 31) 1 k40_27_bef dn (xLoad Tryz.prog 3 s.h.get (s.regs.get undefV 30)) (Qd Tryz.prog hs ks k40_27 k40_27_bef 2 ⟨40, r⟩) := dR (by kernel_rfl)
theorem k40_27_2 : Qd Tryz.prog hs ks k40_27 k40_27_bef 2 ⟨40, r⟩ dn s = stepD s (some 32) 2 k40_27_bef dn (val (binV Tryz.prog .lss 3 false true (s.regs.get undefV 31) (.int .i64 (-65536)))) (Qd Tryz.prog hs ks k40_27 k40_27_bef 3 ⟨40, r⟩) := dR (by kernel_rfl)
theorem k40_27_3 : Qd Tryz.prog hs ks k40_27 k40_27_bef 3 ⟨40, r⟩ dn s = stepD s (some 33) 3 k40_27_bef dn (some { v := (s.regs.get undefV 32) }) (Qd Tryz.prog hs ks k40_27 k40_27_bef 4 ⟨40, r⟩) := dR (by kernel_rfl)
theorem k40_27_4 : Qd Tryz.prog hs ks k40_27 k40_27_bef 4 ⟨40, r⟩ dn s = if wantB (s.regs.get undefV 33) false = true then stepD s (some 34) 4 k40_27_bef dn (val (addrAdd (s.regs.get undefV 4) 0)) (Qd Tryz.prog hs ks k40_27 k40_27_bef 5 ⟨40, r⟩) else Qd Tryz.prog hs ks k40_27 k40_27_bef 5 ⟨40, r⟩ dn (skipS s (some 34)) := dI (by kernel_rfl)
theorem k40_27_5 : Qd Tryz.prog hs ks k40_27 k40_27_bef 5 ⟨40, r⟩ dn s = if wantB (s.regs.get undefV 33) false = true then stepD s (some 35) 5 k40_27_bef dn (xLoad Tryz.prog 3 s.h.get (s.regs.get undefV 34)) (Qd Tryz.prog hs ks k40_27 k40_27_bef 6 ⟨40, r⟩) else Qd Tryz.prog hs ks k40_27 k40_27_bef 6 ⟨40, r⟩ dn (skipS s (some 35)) := dI (by kernel_rfl)
theorem k40_27_6 : Qd Tryz.prog hs ks k40_27 k40_27_bef 6 ⟨40, r⟩ dn s = if wantB (s.regs.get undefV 33) false = true then stepD s (some 36) 6 k40_27_bef dn (val (binV Tryz.prog .gtr 3 false true (s.regs.get undefV 35) (.int .i64 (7)))) (Qd Tryz.prog hs ks k40_27 k40_27_bef 7 ⟨40, r⟩) else Qd Tryz.prog hs ks k40_27 k40_27_bef 7 ⟨40, r⟩ dn (skipS s (some 36)) := dI (by kernel_rfl)
theorem k40_27_7 : Qd Tryz.prog hs ks k40_27 k40_27_bef 7 ⟨40, r⟩ dn s = stepD s (some 37) 7 k40_27_bef dn (xPick (s.regs.get undefV 33) (.bool true) (s.regs.get undefV 36)) (Qd Tryz.prog hs ks k40_27 k40_27_bef 8 ⟨40, r⟩) := dR (by kernel_rfl)
theorem k40_27_8 : Qd Tryz.prog hs ks k40_27 k40_27_bef 8 ⟨40, r⟩ dn s = stepD s (some 38) 8 k40_27_bef dn (some { v := (s.regs.get undefV 37) }) (Qd Tryz.prog hs ks k40_27 k40_27_bef 9 ⟨40, r⟩) := dR (by kernel_rfl)
theorem k40_27_9 : Qd Tryz.prog hs ks k40_27 k40_27_bef 9 ⟨40, r⟩ dn s = if wantB (s.regs.get undefV 38) false = true then stepD s (some 39) 9 k40_27_bef dn (val (addrAdd (s.regs.get undefV 4) 1)) (Qd Tryz.prog hs ks k40_27 k40_27_bef 10 ⟨40, r⟩) else Qd Tryz.prog hs ks k40_27 k40_27_bef 10 ⟨40, r⟩ dn (skipS s (some 39)) := dI (by kernel_rfl)
theorem k40_27_10 : Qd Tryz.prog hs ks k40_27 k40_27_bef 10 ⟨40, r⟩ dn s = if wantB (s.regs.get undefV 38) false = true then stepD s (some 40) 10 k40_27_bef dn (xLoad Tryz.prog 3 s.h.get (s.regs.get undefV 39)) (Qd Tryz.prog hs ks k40_27 k40_27_bef 11 ⟨40, r⟩) else Qd Tryz.prog hs ks k40_27 k40_27_bef 11 ⟨40, r⟩ dn (skipS s (some 40)) := dI (by kernel_rfl)
theorem k40_27_11 : Qd Tryz.prog hs ks k40_27 k40_27_bef 11 ⟨40, r⟩ dn s = if wantB (s.regs.get undefV 38) false = true then stepD s (some 41) 11 k40_27_bef dn (val (binV Tryz.prog .lss 3 false true (s.regs.get undefV 40) (.int .i64 (0)))) (Qd Tryz.prog hs ks k40_27 k40_27_bef 12 ⟨40, r⟩) else Qd Tryz.prog hs ks k40_27 k40_27_bef 12 ⟨40, r⟩ dn (skipS s (some 41)) := dI (by kernel_rfl)
theorem k40_27_12 : Qd Tryz.prog hs ks k40_27 k40_27_bef 12 ⟨40, r⟩ dn s = stepD s (some 42) 12 k40_27_bef dn (xPick (s.regs.get undefV 38) (.bool true) (s.regs.get undefV 41)) (Qd Tryz.prog hs ks k40_27 k40_27_bef 13 ⟨40, r⟩) := dR (by kernel_rfl)
theorem k40_27_13 : Qd Tryz.prog hs ks k40_27 k40_27_bef 13 ⟨40, r⟩ dn s = stepD s (some 43) 13 k40_27_bef dn (some { v := (s.regs.get undefV 42) }) (Qd Tryz.prog hs ks k40_27 k40_27_bef 14 ⟨40, r⟩) := dR (by kernel_rfl)
theorem k40_27_14 : Qd Tryz.prog hs ks k40_27 k40_27_bef 14 ⟨40, r⟩ dn s = if wantB (s.regs.get undefV 43) false = true then stepD s (some 44) 14 k40_27_bef dn (val (addrAdd (s.regs.get undefV 4) 1)) (Qd Tryz.prog hs ks k40_27 k40_27_bef 15 ⟨40, r⟩) else Qd Tryz.prog hs ks k40_27 k40_27_bef 15 ⟨40, r⟩ dn (skipS s (some 44)) := dI (by kernel_rfl)
theorem k40_27_15 : Qd Tryz.prog hs ks k40_27 k40_27_bef 15 ⟨40, r⟩ dn s = if wantB (s.regs.get undefV 43) false = true then stepD s (some 45) 15 k40_27_bef dn (xLoad Tryz.prog 3 s.h.get (s.regs.get undefV 44)) (Qd Tryz.prog hs ks k40_27 k40_27_bef 16 ⟨40, r⟩) else Qd Tryz.prog hs ks k40_27 k40_27_bef 16 ⟨40, r⟩ dn (skipS s (some 45)) := dI (by kernel_rfl)
theorem k40_27_16 : Qd Tryz.prog hs ks k40_27 k40_27_bef 16 ⟨40, r⟩ dn s = if wantB (s.regs.get undefV 43) false = true then stepD s (some 46) 16 k40_27_bef dn (val (binV Tryz.prog .gtr 3 false true (s.regs.get undefV 45) (.int .i64 (100)))) (Qd Tryz.prog hs ks k40_27 k40_27_bef 17 ⟨40, r⟩) else Qd Tryz.prog hs ks k40_27 k40_27_bef 17 ⟨40, r⟩ dn (skipS s (some 46)) := dI (by kernel_rfl)
theorem k40_27_17 : Qd Tryz.prog hs ks k40_27 k40_27_bef 17 ⟨40, r⟩ dn s = stepD s (some 47) 17 k40_27_bef dn (xPick (s.regs.get undefV 43) (.bool true) (s.regs.get undefV 46)) (Qd Tryz.prog hs ks k40_27 k40_27_bef 18 ⟨40, r⟩) := dR (by kernel_rfl)
theorem k40_27_18 : Qd Tryz.prog hs ks k40_27 k40_27_bef 18 ⟨40, r⟩ dn s = stepD s (some 48) 18 k40_27_bef dn (some { v := (s.regs.get undefV 47) }) (Qd Tryz.prog hs ks k40_27 k40_27_bef 19 ⟨40, r⟩) := dR (by kernel_rfl)
theorem k40_27_19 : Qd Tryz.prog hs ks k40_27 k40_27_bef 19 ⟨40, r⟩ dn s = if wantB (s.regs.get undefV 48) false = true then stepD s (some 49) 19 k40_27_bef dn (some { v := (s.regs.get undefV 3) }) (Qd Tryz.prog hs ks k40_27 k40_27_bef 20 ⟨40, r⟩) else Qd Tryz.prog hs ks k40_27 k40_27_bef 20 ⟨40, r⟩ dn (skipS s (some 49)) := dI (by kernel_rfl)
theorem k40_27_20 : Qd Tryz.prog hs ks k40_27 k40_27_bef 20 ⟨40, r⟩ dn s = if wantB (s.regs.get undefV 48) false = true then stepD s (some 50) 20 k40_27_bef dn (val (binV Tryz.prog .gtr 3 false true (s.regs.get undefV 49) (.int .i64 (0)))) (Qd Tryz.prog hs ks k40_27 k40_27_bef 21 ⟨40, r⟩) else Qd Tryz.prog hs ks k40_27 k40_27_bef 21 ⟨40, r⟩ dn (skipS s (some 50)) := dI (by kernel_rfl)
theorem k40_27_21 : Qd Tryz.prog hs ks k40_27 k40_27_bef 21 ⟨40, r⟩ dn s = if wantB (s.regs.get undefV 48) false = true then stepD s (some 51) 21 k40_27_bef dn (some { v := (s.regs.get undefV 50) }) (Qd Tryz.prog hs ks k40_27 k40_27_bef 22 ⟨40, r⟩) else Qd Tryz.prog hs ks k40_27 k40_27_bef 22 ⟨40, r⟩ dn (skipS s (some 51)) := dI (by kernel_rfl)
theorem k40_27_22 : Qd Tryz.prog hs ks k40_27 k40_27_bef 22 ⟨40, r⟩ dn s = if wantB (s.regs.get undefV 51) true = true then stepD s (some 52) 22 k40_27_bef dn (val (addrAdd (s.regs.get undefV 1) 1)) (Qd Tryz.prog hs ks k40_27 k40_27_bef 23 ⟨40, r⟩) else Qd Tryz.prog hs ks k40_27 k40_27_bef 23 ⟨40, r⟩ dn (skipS s (some 52)) := dI (by kernel_rfl)
theorem k40_27_23 : Qd Tryz.prog hs ks k40_27 k40_27_bef 23 ⟨40, r⟩ dn s = if wantB (s.regs.get undefV 51) true = true then stepD s (some 53) 23 k40_27_bef dn (xLoad Tryz.prog 35 s.h.get (s.regs.get undefV 52)) (Qd Tryz.prog hs ks k40_27 k40_27_bef 24 ⟨40, r⟩) else Qd Tryz.prog hs ks k40_27 k40_27_bef 24 ⟨40, r⟩ dn (skipS s (some 53)) := dI (by kernel_rfl)
theorem k40_27_24 : Qd Tryz.prog hs ks k40_27 k40_27_bef 24 ⟨40, r⟩ dn s = if wantB (s.regs.get undefV 51) true = true then stepD s (some 54) 24 k40_27_bef dn (some { v := (s.regs.get undefV 3) }) (Qd Tryz.prog hs ks k40_27 k40_27_bef 25 ⟨40, r⟩) else Qd Tryz.prog hs ks k40_27 k40_27_bef 25 ⟨40, r⟩ dn (skipS s (some 54)) := dI (by kernel_rfl)
theorem k40_27_25 : Qd Tryz.prog hs ks k40_27 k40_27_bef 25 ⟨40, r⟩ dn s = if wantB (s.regs.get undefV 51) true = true then stepD s (some 55) 25 k40_27_bef dn (val (binV Tryz.prog .sub 3 false true (s.regs.get undefV 54) (.int .i64 (1)))) (Qd Tryz.prog hs ks k40_27 k40_27_bef 26 ⟨40, r⟩) else Qd Tryz.prog hs ks k40_27 k40_27_bef 26 ⟨40, r⟩ dn (skipS s (some 55)) := dI (by kernel_rfl)
theorem k40_27_26 : Qd Tryz.prog hs ks k40_27 k40_27_bef 26 ⟨40, r⟩ dn s = if wantB (s.regs.get undefV 51) true = true then stepD s (some 56) 26 k40_27_bef dn (val (indexAddr Tryz.prog 35 (s.regs.get undefV 53) (s.regs.get undefV 55))) (Qd Tryz.prog hs ks k40_27 k40_27_bef 27 ⟨40, r⟩) else Qd Tryz.prog hs ks k40_27 k40_27_bef 27 ⟨40, r⟩ dn (skipS s (some 56)) := dI (by kernel_rfl)
theorem k40_27_27 : Qd Tryz.prog hs ks k40_27 k40_27_bef 27 ⟨40, r⟩ dn s = if wantB (s.regs.get undefV 51) true = true then stepD s (some 57) 27 k40_27_bef dn (val (addrAdd (s.regs.get undefV 56) 0)) (Qd Tryz.prog hs ks k40_27 k40_27_bef 28 ⟨40, r⟩) else Qd Tryz.prog hs ks k40_27 k40_27_bef 28 ⟨40, r⟩ dn (skipS s (some 57)) := dI (by kernel_rfl)
theorem k40_27_28 : Qd Tryz.prog hs ks k40_27 k40_27_bef 28 ⟨40, r⟩ dn s = if wantB (s.regs.get undefV 51) true = true then stepD s (some 58) 28 k40_27_bef dn (xLoad Tryz.prog 3 s.h.get (s.regs.get undefV 57)) (Qd Tryz.prog hs ks k40_27 k40_27_bef 29 ⟨40, r⟩) else Qd Tryz.prog hs ks k40_27 k40_27_bef 29 ⟨40, r⟩ dn (skipS s (some 58)) := dI (by kernel_rfl)
theorem k40_27_29 : Qd Tryz.prog hs ks k40_27 k40_27_bef 29 ⟨40, r⟩ dn s = if wantB (s.regs.get undefV 51) true = true then stepD s (some 59) 29 k40_27_bef dn (val (addrAdd (s.regs.get undefV 4) 0)) (Qd Tryz.prog hs ks k40_27 k40_27_bef 30 ⟨40, r⟩) else Qd Tryz.prog hs ks k40_27 k40_27_bef 30 ⟨40, r⟩ dn (skipS s (some 59)) := dI (by kernel_rfl)
theorem k40_27_30 : Qd Tryz.prog hs ks k40_27 k40_27_bef 30 ⟨40, r⟩ dn s = if wantB (s.regs.get undefV 51) true = true then stepD s (some 60) 30 k40_27_bef dn (xLoad Tryz.prog 3 s.h.get (s.regs.get undefV 59)) (Qd Tryz.prog hs ks k40_27 k40_27_bef 31 ⟨40, r⟩) else Qd Tryz.prog hs ks k40_27 k40_27_bef 31 ⟨40, r⟩ dn (skipS s (some 60)) := dI (by kernel_rfl)
theorem k40_27_31 : Qd Tryz.prog hs ks k40_27 k40_27_bef 31 ⟨40, r⟩ dn s = if wantB (s.regs.get undefV 51) true = true then stepD s (some 61) 31 k40_27_bef dn (val (binV Tryz.prog .geq 3 false false (s.regs.get undefV 58) (s.regs.get undefV 60))) (Qd Tryz.prog hs ks k40_27 k40_27_bef 32 ⟨40, r⟩) else Qd Tryz.prog hs ks k40_27 k40_27_bef 32 ⟨40, r⟩ dn (skipS s (some 61)) := dI (by kernel_rfl)
theorem k40_27_32 : Qd Tryz.prog hs ks k40_27 k40_27_bef 32 ⟨40, r⟩ dn s = if wantB (s.regs.get undefV 48) false = true then stepD s (some 62) 32 k40_27_bef dn (xPick (s.regs.get undefV 51) (s.regs.get undefV 61) (.bool false)) (Qd Tryz.prog hs ks k40_27 k40_27_bef 33 ⟨40, r⟩) else Qd Tryz.prog hs ks k40_27 k40_27_bef 33 ⟨40, r⟩ dn (skipS s (some 62)) := dI (by kernel_rfl)
theorem k40_27_33 : Qd Tryz.prog hs ks k40_27 k40_27_bef 33 ⟨40, r⟩ dn s = stepD s (some 63) 33 k40_27_bef dn (xPick (s.regs.get undefV 48) (.bool true) (s.regs.get undefV 62)) (Qd Tryz.prog hs ks k40_27 k40_27_bef 34 ⟨40, r⟩) := dR (by kernel_rfl)
theorem k40_27_34 : Qd Tryz.prog hs ks k40_27 k40_27_bef 34 ⟨40, r⟩ dn s = some [(.normal, s)] := Qd_end (by kernel_rfl) dn s
noncomputable def k40_29 : Code := codeA k40_28
noncomputable def k40_30 : Code := codeB k40_28
theorem k40_28_c : Qc Tryz.prog hs ks ⟨40, r⟩ k40_28 s = condV (s.regs.get undefV 63) (Qc Tryz.prog hs ks ⟨40, r⟩ k40_29) (Qc Tryz.prog hs ks ⟨40, r⟩ k40_30) s := Qc_cond (t := 63) (a := k40_29) (b := k40_30) (by kernel_rfl) _ _
noncomputable def k40_31 : Code := codeA k40_29
noncomputable def k40_32 : Code := codeB k40_29
theorem k40_29_c : Qc Tryz.prog hs ks ⟨40, r⟩ k40_29 s = thenV (Qc Tryz.prog hs ks ⟨40, r⟩ k40_31 s) (Qc Tryz.prog hs ks ⟨40, r⟩ k40_32) := Qc_seq (a := k40_31) (b := k40_32) (by kernel_rfl) _ _
theorem k40_31_c : Qc Tryz.prog hs ks ⟨40, r⟩ k40_31 s = Qo Tryz.prog hs ks k40_31 0 ⟨40, r⟩ s := Qc_region (id := 7) (ops := regOps k40_31) (by kernel_rfl) (by kernel_rfl) s
theorem k40_31_0 : Qo Tryz.prog hs ks k40_31 0 ⟨40, r⟩ s = stepV s (some 2) (some { v := (.bool false) }) (Qo Tryz.prog hs ks k40_31 1 ⟨40, r⟩) := oR (by kernel_rfl)
theorem k40_31_1 : Qo Tryz.prog hs ks k40_31 1 ⟨40, r⟩ s = some [(.normal, s)] := Qo_end (by kernel_rfl) s
theorem k40_32_c : Qc Tryz.prog hs ks ⟨40, r⟩ k40_32 s = some [(.ret, s)] := Qc_ret (by kernel_rfl) _ _
theorem k40_30_c : Qc Tryz.prog hs ks ⟨40, r⟩ k40_30 s = some [(.normal, s)] := Qc_skip (by kernel_rfl) _ _
theorem k40_23_c : Qc Tryz.prog hs ks ⟨40, r⟩ k40_23 s = Qo Tryz.prog hs ks k40_23 0 ⟨40, r⟩ s := Qc_region (id := 8) (ops := regOps k40_23) (by kernel_rfl) (by kernel_rfl) s
theorem k40_23_0 : Qo Tryz.prog hs ks k40_23 0 ⟨40, r⟩ s = stepV s (some 64) (val (binV Tryz.prog .add 3 false true (s.regs.get undefV 25) (.int .i64 (1)))) (Qo Tryz.prog hs ks k40_23 1 ⟨40, r⟩) := oR (by kernel_rfl)
theorem k40_23_1 : Qo Tryz.prog hs ks k40_23 1 ⟨40, r⟩ s = stepV s (some 25) (some { v := (s.regs.get undefV 64) }) (Qo Tryz.prog hs ks k40_23 2 ⟨40, r⟩) := oR (by kernel_rfl)
theorem k40_23_2 : Qo Tryz.prog hs ks k40_23 2 ⟨40, r⟩ s = some [(.normal, s)] := Qo_end (by kernel_rfl) s
noncomputable def k40_33 : Code := codeA k40_11
noncomputable def k40_34 : Code := codeB k40_11
theorem k40_11_c : Qc Tryz.prog hs ks ⟨40, r⟩ k40_11 s = thenV (Qc Tryz.prog hs ks ⟨40, r⟩ k40_33 s) (Qc Tryz.prog hs ks ⟨40, r⟩ k40_34) := Qc_seq (a := k40_33) (b := k40_34) (by kernel_rfl) _ _
theorem k40_33_c : Qc Tryz.prog hs ks ⟨40, r⟩ k40_33 s = Qo Tryz.prog hs ks k40_33 0 ⟨40, r⟩ s := Qc_region (id := 9) (ops := regOps k40_33) (by kernel_rfl) (by kernel_rfl) s
theorem k40_33_0 : Qo Tryz.prog hs ks k40_33 0 ⟨40, r⟩ s = stepV s (some 2) (some { v := (.bool true) }) (Qo Tryz.prog hs ks k40_33 1 ⟨40, r⟩) := oR (by kernel_rfl)
theorem k40_33_1 : Qo Tryz.prog hs ks k40_33 1 ⟨40, r⟩ s = some [(.normal, s)] := Qo_end (by kernel_rfl) s
theorem k40_34_c : Qc Tryz.prog hs ks ⟨40, r⟩ k40_34 s = some [(.ret, s)] := Qc_ret (by kernel_rfl) _ _
/-! function 41 -/
noncomputable def k41 : Code := Tryz.f41.body.getD .skip
theorem k41_fun (args : List V) (ha : args.length ≤ 6) (h : H) : (EV Tryz.prog hs ks).call 41 args h = endsV Tryz.prog hs ks Tryz.f41 (Qc Tryz.prog hs ks ⟨41, none⟩ k41 (S 6 (setF args 0 fun _ => undefV) [] h)) := EV_fun Tryz.func41 (by kernel_rfl) (by kernel_rfl) (by decide) ha h
theorem k41_ret (f : Nat → V) (h : H) : endsV Tryz.prog hs ks Tryz.f41 (some [(.ret, S 6 f [] h)]) = resV (resultVs Tryz.prog (S 6 f [] h) [.tmp 4]) h := ends_one (by kernel_rfl) (Or.inl rfl) _ _
theorem k41_nrm (f : Nat → V) (h : H) : endsV Tryz.prog hs ks Tryz.f41 (some [(.normal, S 6 f [] h)]) = resV (resultVs Tryz.prog (S 6 f [] h) [.tmp 4]) h := ends_one (by kernel_rfl) (Or.inr rfl) _ _
noncomputable def k41_0 : Code := codeA k41
noncomputable def k41_1 : Code := codeB k41
theorem k41_c : Qc Tryz.prog hs ks ⟨41, r⟩ k41 s = thenV (Qc Tryz.prog hs ks ⟨41, r⟩ k41_0 s) (Qc Tryz.prog hs ks ⟨41, r⟩ k41_1) := Qc_seq (a := k41_0) (b := k41_1) (by kernel_rfl) _ _
theorem k41_0_c : Qc Tryz.prog hs ks ⟨41, r⟩ k41_0 s = Qo Tryz.prog hs ks k41_0 0 ⟨41, r⟩ s := Qc_region (id := 0) (ops := regOps k41_0) (by kernel_rfl) (by kernel_rfl) s
theorem k41_0_0 : Qo Tryz.prog hs ks k41_0 0 ⟨41, r⟩ s = stepV s (some 2) (some { v := .ptr s.h.n 0, nw := [.row 0 (V.cells (s.regs.get undefV 0))] }) (Qo Tryz.prog hs ks k41_0 1 ⟨41, r⟩) := oR (by kernel_rfl)
theorem k41_0_1 : Qo Tryz.prog hs ks k41_0 1 ⟨41, r⟩ s = stepV s (some 3) (some { v := .ptr s.h.n 0, nw := [.row 0 (V.cells (s.regs.get undefV 1))] }) (Qo Tryz.prog hs ks k41_0 2 ⟨41, r⟩) := oR (by kernel_rfl)
theorem k41_0_2 : Qo Tryz.prog hs ks k41_0 2 ⟨41, r⟩ s = stepV s (some 4) (some { v := (.nilf) }) (Qo Tryz.prog hs ks k41_0 3 ⟨41, r⟩) := oR (by kernel_rfl)
theorem k41_0_3 : Qo Tryz.prog hs ks k41_0 3 ⟨41, r⟩ s = some [(.normal, s)] := Qo_end (by kernel_rfl) s
noncomputable def k41_2 : Code := codeA k41_1
noncomputable def k41_3 : Code := codeB k41_1
theorem k41_1_c : Qc Tryz.prog hs ks ⟨41, r⟩ k41_1 s = thenV (Qc Tryz.prog hs ks ⟨41, r⟩ k41_2 s) (Qc Tryz.prog hs ks ⟨41, r⟩ k41_3) := Qc_seq (a := k41_2) (b := k41_3) (by kernel_rfl) _ _
theorem k41_2_c : Qc Tryz.prog hs ks ⟨41, r⟩ k41_2 s = Qo Tryz.prog hs ks k41_2 0 ⟨41, r⟩ s := Qc_region (id := 1) (ops := regOps k41_2) (by kernel_rfl) (by kernel_rfl) s
theorem k41_2_0 : Qo Tryz.prog hs ks k41_2 0 ⟨41, r⟩ s = stepV s (some 5) (some { v := .fn (.func 71) [] [(s.regs.get undefV 2), (s.regs.get undefV 3)] }) (Qo Tryz.prog hs ks k41_2 1 ⟨41, r⟩) := oR (by kernel_rfl)
theorem k41_2_1 : Qo Tryz.prog hs ks k41_2 1 ⟨41, r⟩ s = stepV s (some 4) (some { v := (s.regs.get undefV 5) }) (Qo Tryz.prog hs ks k41_2 2 ⟨41, r⟩) := oR (by kernel_rfl)
theorem k41_2_2 : Qo Tryz.prog hs ks k41_2 2 ⟨41, r⟩ s = some [(.normal, s)] := Qo_end (by kernel_rfl) s
theorem k41_3_c : Qc Tryz.prog hs ks ⟨41, r⟩ k41_3 s = some [(.ret, s)] := Qc_ret (by kernel_rfl) _ _
/-! function 42 -/
noncomputable def k42 : Code := Tryz.f42.body.getD .skip
theorem k42_fun (args : List V) (ha : args.length ≤ 26) (h : H) : (EV Tryz.prog hs ks).call 42 args h = endsV Tryz.prog hs ks Tryz.f42 (Qc Tryz.prog hs ks ⟨42, none⟩ k42 (S 26 (setF args 0 fun _ => undefV) [] h)) := EV_fun Tryz.func42 (by kernel_rfl) (by kernel_rfl) (by decide) ha h
theorem k42_ret (f : Nat → V) (h : H) : endsV Tryz.prog hs ks Tryz.f42 (some [(.ret, S 26 f [] h)]) = resV (resultVs Tryz.prog (S 26 f [] h) [.cell 2 37, .tmp 3]) h := ends_one (by kernel_rfl) (Or.inl rfl) _ _
theorem k42_nrm (f : Nat → V) (h : H) : endsV Tryz.prog hs ks Tryz.f42 (some [(.normal, S 26 f [] h)]) = resV (resultVs Tryz.prog (S 26 f [] h) [.cell 2 37, .tmp 3]) h := ends_one (by kernel_rfl) (Or.inr rfl) _ _
noncomputable def k42_0 : Code := codeA k42
noncomputable def k42_1 : Code := codeB k42
theorem k42_c : Qc Tryz.prog hs ks ⟨42, r⟩ k42 s = thenV (Qc Tryz.prog hs ks ⟨42, r⟩ k42_0 s) (Qc Tryz.prog hs ks ⟨42, r⟩ k42_1) := Qc_seq (a := k42_0) (b := k42_1) (by kernel_rfl) _ _
theorem k42_0_c : Qc Tryz.prog hs ks ⟨42, r⟩ k42_0 s = Qo Tryz.prog hs ks k42_0 0 ⟨42, r⟩ s := Qc_region (id := 0) (ops := regOps k42_0) (by kernel_rfl) (by kernel_rfl) s
theorem k42_0_0 : Qo Tryz.prog hs ks k42_0 0 ⟨42, r⟩ s = stepV s (some 1) (some { v := .ptr s.h.n 0, nw := [.row 0 (V.cells (s.regs.get undefV 0))] }) (Qo Tryz.prog hs ks k42_0 1 ⟨42, r⟩) := oR (by kernel_rfl)
theorem k42_0_1 : Qo Tryz.prog hs ks k42_0 1 ⟨42, r⟩ s = stepV s (some 2) (some { v := .ptr s.h.n 0, nw := [.row 0 [.int .i64 (0), .nils]] }) (Qo Tryz.prog hs ks k42_0 2 ⟨42, r⟩) := oR (by kernel_rfl)
theorem k42_0_2 : Qo Tryz.prog hs ks k42_0 2 ⟨42, r⟩ s = stepV s (some 3) (some { v := (.int .i64 (0)) }) (Qo Tryz.prog hs ks k42_0 3 ⟨42, r⟩) := oR (by kernel_rfl)
theorem k42_0_3 : Qo Tryz.prog hs ks k42_0 3 ⟨42, r⟩ s = some [(.normal, s)] := Qo_end (by kernel_rfl) s
noncomputable def k42_2 : Code := codeA k42_1
noncomputable def k42_3 : Code := codeB k42_1
theorem k42_1_c : Qc Tryz.prog hs ks ⟨42, r⟩ k42_1 s = thenV (Qc Tryz.prog hs ks ⟨42, r⟩ k42_2 s) (Qc Tryz.prog hs ks ⟨42, r⟩ k42_3) := Qc_seq (a := k42_2) (b := k42_3) (by kernel_rfl) _ _
noncomputable def k42_4 : Code := codeA k42_2
noncomputable def k42_5 : Code := codeB k42_2
theorem k42_2_c : Qc Tryz.prog hs ks ⟨42, r⟩ k42_2 s = thenV (Qc Tryz.prog hs ks ⟨42, r⟩ k42_4 s) (Qc Tryz.prog hs ks ⟨42, r⟩ k42_5) := Qc_seq (a := k42_4) (b := k42_5) (by kernel_rfl) _ _
theorem k42_4_c : Qc Tryz.prog hs ks ⟨42, r⟩ k42_4 s = Qo Tryz.prog hs ks k42_4 0 ⟨42, r⟩ s := Qc_region (id := 1) (ops := regOps k42_4) (by kernel_rfl) (by kernel_rfl) s
theorem k42_4_0 : Qo Tryz.prog hs ks k42_4 0 ⟨42, r⟩ s = stepV s (some 6) (val (addrAdd (s.regs.get undefV 1) 1)) (Qo Tryz.prog hs ks k42_4 1 ⟨42, r⟩) := oR (by kernel_rfl)
theorem k42_4_1 : Qo Tryz.prog hs ks k42_4 1 ⟨42, r⟩ s = stepV s (some 7) (xLoad Tryz.prog 35 s.h.get (s.regs.get undefV 6)) (Qo Tryz.prog hs ks k42_4 2 ⟨42, r⟩) := oR (by kernel_rfl)
theorem k42_4_2 : Qo Tryz.prog hs ks k42_4 2 ⟨42, r⟩ s = stepV s (some 8) (builtinV Tryz.prog false s.h.get s.h.n .len [35] [(s.regs.get undefV 7)]) (Qo Tryz.prog hs ks k42_4 3 ⟨42, r⟩) := oR (by kernel_rfl)
theorem k42_4_3 : Qo Tryz.prog hs ks k42_4 3 ⟨42, r⟩ s = stepV s (some 9) (some { v := (.int .i64 (0)) }) (Qo Tryz.prog hs ks k42_4 4 ⟨42, r⟩) := oR (by kernel_rfl)
theorem k42_4_4 : Qo Tryz.prog hs ks k42_4 4 ⟨42, r⟩ s = some [(.normal, s)] := Qo_end (by kernel_rfl) s
noncomputable def k42_6 : Code := codeA k42_5
theorem k42_5_c : Qc Tryz.prog hs ks ⟨42, r⟩ k42_5 s = blockV 0 (Qc Tryz.prog hs ks ⟨42, r⟩ k42_6 s) := Qc_block (b := k42_6) (by kernel_rfl) _ _
noncomputable def k42_7 : Code := codeA k42_6
theorem k42_6_l : Qc Tryz.prog hs ks ⟨42, r⟩ k42_6 s = thenV (Qc Tryz.prog hs ks ⟨42, r⟩ k42_7 s) (Qc Tryz.prog hs ks ⟨42, r⟩ k42_6) := Qc_loop (b := k42_7) (by kernel_rfl) _ _
noncomputable def k42_8 : Code := codeA k42_7
noncomputable def k42_9 : Code := codeB k42_7
theorem k42_7_c : Qc Tryz.prog hs ks ⟨42, r⟩ k42_7 s = thenV (Qc Tryz.prog hs ks ⟨42, r⟩ k42_8 s) (Qc Tryz.prog hs ks ⟨42, r⟩ k42_9) := Qc_seq (a := k42_8) (b := k42_9) (by kernel_rfl) _ _
theorem k42_8_c : Qc Tryz.prog hs ks ⟨42, r⟩ k42_8 s = Qo Tryz.prog hs ks k42_8 0 ⟨42, r⟩ s := Qc_region (id := 2) (ops := regOps k42_8) (by kernel_rfl) (by kernel_rfl) s
theorem k42_8_0 : Qo Tryz.prog hs ks k42_8 0 ⟨42, r⟩ s = stepV s (some 10) (val (binV Tryz.prog .lss 3 false false (s.regs.get undefV 9) (s.regs.get undefV 8))) (Qo Tryz.prog hs ks k42_8 1 ⟨42, r⟩) := oR (by kernel_rfl)
theorem k42_8_1 : Qo Tryz.prog hs ks k42_8 1 ⟨42, r⟩ s = some [(.normal, s)] := Qo_end (by kernel_rfl) s
noncomputable def k42_10 : Code := codeA k42_9
noncomputable def k42_11 : Code := codeB k42_9
theorem k42_9_c : Qc Tryz.prog hs ks ⟨42, r⟩ k42_9 s = thenV (Qc Tryz.prog hs ks ⟨42, r⟩ k42_10 s) (Qc Tryz.prog hs ks ⟨42, r⟩ k42_11) := Qc_seq (a := k42_10) (b := k42_11) (by kernel_rfl) _ _
noncomputable def k42_12 : Code := codeA k42_10
noncomputable def k42_13 : Code := codeB k42_10
theorem k42_10_c : Qc Tryz.prog hs ks ⟨42, r⟩ k42_10 s = condV (s.regs.get undefV 10) (Qc Tryz.prog hs ks ⟨42, r⟩ k42_12) (Qc Tryz.prog hs ks ⟨42, r⟩ k42_13) s := Qc_cond (t := 10) (a := k42_12) (b := k42_13) (by kernel_rfl) _ _
theorem k42_12_c : Qc Tryz.prog hs ks ⟨42, r⟩ k42_12 s = some [(.normal, s)] := Qc_skip (by kernel_rfl) _ _
theorem k42_13_c : Qc Tryz.prog hs ks ⟨42, r⟩ k42_13 s = some [(.exit 0, s)] := Qc_exit (by kernel_rfl) _ _
noncomputable def k42_14 : Code := codeA k42_11
noncomputable def k42_15 : Code := codeB k42_11
theorem k42_11_c : Qc Tryz.prog hs ks ⟨42, r⟩ k42_11 s = thenV (Qc Tryz.prog hs ks ⟨42, r⟩ k42_14 s) (Qc Tryz.prog hs ks ⟨42, r⟩ k42_15) := Qc_seq (a := k42_14) (b := k42_15) (by kernel_rfl) _ _
noncomputable def k42_16 : Code := codeA k42_14
theorem k42_14_c : Qc Tryz.prog hs ks ⟨42, r⟩ k42_14 s = blockV 1 (Qc Tryz.prog hs ks ⟨42, r⟩ k42_16 s) := Qc_block (b := k42_16) (by kernel_rfl) _ _
noncomputable def k42_17 : Code := codeA k42_16
noncomputable def k42_18 : Code := codeB k42_16
theorem k42_16_c : Qc Tryz.prog hs ks ⟨42, r⟩ k42_16 s = thenV (Qc Tryz.prog hs ks ⟨42, r⟩ k42_17 s) (Qc Tryz.prog hs ks ⟨42, r⟩ k42_18) := Qc_seq (a := k42_17) (b := k42_18) (by kernel_rfl) _ _
theorem k42_17_c : Qc Tryz.prog hs ks ⟨42, r⟩ k42_17 s = Qo Tryz.prog hs ks k42_17 0 ⟨42, r⟩ s := Qc_region (id := 3) (ops := regOps k42_17) (by kernel_rfl) (by kernel_rfl) s
theorem k42_17_0 : Qo Tryz.prog hs ks k42_17 0 ⟨42, r⟩ s = stepV s (some 11) (val (indexAddr Tryz.prog 35 (s.regs.get undefV 7) (s.regs.get undefV 9))) (Qo Tryz.prog hs ks k42_17 1 ⟨42, r⟩) := oR (by kernel_rfl)
theorem k42_17_1 : Qo Tryz.prog hs ks k42_17 1 ⟨42, r⟩ s = stepV s (some 12) (xLoad Tryz.prog 74 s.h.get (s.regs.get undefV 11)) (Qo Tryz.prog hs ks k42_17 2 ⟨42, r⟩) := oR (by kernel_rfl)
theorem k42_17_2 : Qo Tryz.prog hs ks k42_17 2 ⟨42, r⟩ s = stepV s (some 5) (some { v := .ptr s.h.n 0, nw := [.row 0 [.int .i64 (0), .int .i64 (0)]] }) (Qo Tryz.prog hs ks k42_17 3 ⟨42, r⟩) := oR (by kernel_rfl)
theorem k42_17_3 : Qo Tryz.prog hs ks k42_17 3 ⟨42, r⟩ s = stepV s none (xStore Tryz.prog 74 s.h.get (s.regs.get undefV 5) (s.regs.get undefV 12)) (Qo Tryz.prog hs ks k42_17 4 ⟨42, r⟩) := oR (by kernel_rfl)
theorem k42_17_4 : Qo Tryz.prog hs ks k42_17 4 ⟨42, r⟩ s = some [(.normal, s)] := Qo_end (by kernel_rfl) s
noncomputable def k42_19 : Code := codeA k42_18
noncomputable def k42_20 : Code := codeB k42_18
theorem k42_18_c : Qc Tryz.prog hs ks ⟨42, r⟩ k42_18 s = thenV (Qc Tryz.prog hs ks ⟨42, r⟩ k42_19 s) (Qc Tryz.prog hs ks ⟨42, r⟩ k42_20) := Qc_seq (a := k42_19) (b := k42_20) (by kernel_rfl) _ _
theorem k42_19_c : Qc Tryz.prog hs ks ⟨42, r⟩ k42_19 s = Qo Tryz.prog hs ks k42_19 0 ⟨42, r⟩ s := Qc_region (id := 4) (ops := regOps k42_19) (by kernel_rfl) (by kernel_rfl) s
theorem k42_19_0 : Qo Tryz.prog hs ks k42_19 0 ⟨42, r⟩ s = stepV s (some 13) (val (addrAdd (s.regs.get undefV 5) 1)) (Qo Tryz.prog hs ks k42_19 1 ⟨42, r⟩) := oR (by kernel_rfl)
theorem k42_19_1 : Qo Tryz.prog hs ks k42_19 1 ⟨42, r⟩ s = stepV s (some 14) (xLoad Tryz.prog 3 s.h.get (s.regs.get undefV 13)) (Qo Tryz.prog hs ks k42_19 2 ⟨42, r⟩) := oR (by kernel_rfl)
theorem k42_19_2 : Qo Tryz.prog hs ks k42_19 2 ⟨42, r⟩ s = stepV s (some 15) (val (binV Tryz.prog .gtr 3 false true (s.regs.get undefV 14) (.int .i64 (100)))) (Qo Tryz.prog hs ks k42_19 3 ⟨42, r⟩) := oR (by kernel_rfl)
theorem k42_19_3 : Qo Tryz.prog hs ks k42_19 3 ⟨42, r⟩ s = some [(.normal, s)] := Qo_end (by kernel_rfl) s
noncomputable def k42_21 : Code := codeA k42_20
noncomputable def k42_22 : Code := codeB k42_20
theorem k42_20_c : Qc Tryz.prog hs ks ⟨42, r⟩ k42_20 s = condV (s.regs.get undefV 15) (Qc Tryz.prog hs ks ⟨42, r⟩ k42_21) (Qc Tryz.prog hs ks ⟨42, r⟩ k42_22) s := Qc_cond (t := 15) (a := k42_21) (b := k42_22) (by kernel_rfl) _ _
noncomputable def k42_23 : Code := codeA k42_21
noncomputable def k42_24 : Code := codeB k42_21
theorem k42_21_c : Qc Tryz.prog hs ks ⟨42, r⟩ k42_21 s = thenV (Qc Tryz.prog hs ks ⟨42, r⟩ k42_23 s) (Qc Tryz.prog hs ks ⟨42, r⟩ k42_24) := Qc_seq (a := k42_23) (b := k42_24) (by kernel_rfl) _ _
theorem k42_23_c : Qc Tryz.prog hs ks ⟨42, r⟩ k42_23 s = Qo Tryz.prog hs ks k42_23 0 ⟨42, r⟩ s := Qc_region (id := 5) (ops := regOps k42_23) (by kernel_rfl) (by kernel_rfl) s
theorem k42_23_0 : Qo Tryz.prog hs ks k42_23 0 ⟨42, r⟩ s = stepV s (some 16) (val (build Tryz.prog 37 [])) (Qo Tryz.prog hs ks k42_23 1 ⟨42, r⟩) := oR (by kernel_rfl)
theorem k42_23_1 : Qo Tryz.prog hs ks k42_23 1 ⟨42, r⟩ s = stepV s none (xStore Tryz.prog 37 s.h.get (s.regs.get undefV 2) (s.regs.get undefV 16)) (Qo Tryz.prog hs ks k42_23 2 ⟨42, r⟩) := oR (by kernel_rfl)
theorem k42_23_2 : Qo Tryz.prog hs ks k42_23 2 ⟨42, r⟩ s = stepV s (some 3) (some { v := (.int .i64 (15)) }) (Qo Tryz.prog hs ks k42_23 3 ⟨42, r⟩) := oR (by kernel_rfl)
theorem k42_23_3 : Qo Tryz.prog hs ks k42_23 3 ⟨42, r⟩ s = some [(.normal, s)] := Qo_end (by kernel_rfl) s
theorem k42_24_c : Qc Tryz.prog hs ks ⟨42, r⟩ k42_24 s = some [(.ret, s)] := Qc_ret (by kernel_rfl) _ _
theorem k42_22_c : Qc Tryz.prog hs ks ⟨42, r⟩ k42_22 s = some [(.normal, s)] := Qc_skip (by kernel_rfl) _ _
theorem k42_15_c : Qc Tryz.prog hs ks ⟨42, r⟩ k42_15 s = Qo Tryz.prog hs ks k42_15 0 ⟨42, r⟩ s := Qc_region (id := 6) (ops := regOps k42_15) (by kernel_rfl) (by kernel_rfl) s
theorem k42_15_0 : Qo Tryz.prog hs ks k42_15 0 ⟨42, r⟩ s = stepV s (some 17) (val (binV Tryz.prog .add 3 false true (s.regs.get undefV 9) (.int .i64 (1)))) (Qo Tryz.prog hs ks k42_15 1 ⟨42, r⟩) := oR (by kernel_rfl)
theorem k42_15_1 : Qo Tryz.prog hs ks k42_15 1 ⟨42, r⟩ s = stepV s (some 9) (some { v := (s.regs.get undefV 17) }) (Qo Tryz.prog hs ks k42_15 2 ⟨42, r⟩) := oR (by kernel_rfl)
theorem k42_15_2 : Qo Tryz.prog hs ks k42_15 2 ⟨42, r⟩ s = some [(.normal, s)] := Qo_end (by kernel_rfl) s
noncomputable def k42_25 : Code := codeA k42_3
noncomputable def k42_26 : Code := codeB k42_3
theorem k42_3_c : Qc Tryz.prog hs ks ⟨42, r⟩ k42_3 s = thenV (Qc Tryz.prog hs ks ⟨42, r⟩ k42_25 s) (Qc Tryz.prog hs ks ⟨42, r⟩ k42_26) := Qc_seq (a := k42_25) (b := k42_26) (by kernel_rfl) _ _
noncomputable def k42_27 : Code := codeA k42_25
noncomputable def k42_28 : Code := codeB k42_25
theorem k42_25_c : Qc Tryz.prog hs ks ⟨42, r⟩ k42_25 s = thenV (Qc Tryz.prog hs ks ⟨42, r⟩ k42_27 s) (Qc Tryz.prog hs ks ⟨42, r⟩ k42_28) := Qc_seq (a := k42_27) (b := k42_28) (by kernel_rfl) _ _
theorem k42_27_c : Qc Tryz.prog hs ks ⟨42, r⟩ k42_27 s = Qo Tryz.prog hs ks k42_27 0 ⟨42, r⟩ s := Qc_region (id := 7) (ops := regOps k42_27) (by kernel_rfl) (by kernel_rfl) s
theorem k42_27_0 : Qo Tryz.prog hs ks k42_27 0 ⟨42, r⟩ s = stepV s (some 18) (val (addrAdd (s.regs.get undefV 1) 0)) (Qo Tryz.prog hs ks k42_27 1 ⟨42, r⟩) := oR (by kernel_rfl)
theorem k42_27_1 : Qo Tryz.prog hs ks k42_27 1 ⟨42, r⟩ s = stepV s (some 19) (xLoad Tryz.prog 3 s.h.get (s.regs.get undefV 18)) (Qo Tryz.prog hs ks k42_27 2 ⟨42, r⟩) := oR (by kernel_rfl)
theorem k42_27_2 : Qo Tryz.prog hs ks k42_27 2 ⟨42, r⟩ s = stepV s (some 20) (val (binV Tryz.prog .gtr 3 false true (s.regs.get undefV 19) (.int .i64 (100)))) (Qo Tryz.prog hs ks k42_27 3 ⟨42, r⟩) := oR (by kernel_rfl)
theorem k42_27_3 : Qo Tryz.prog hs ks k42_27 3 ⟨42, r⟩ s = some [(.normal, s)] := Qo_end (by kernel_rfl) s
noncomputable def k42_29 : Code := codeA k42_28
noncomputable def k42_30 : Code := codeB k42_28
theorem k42_28_c : Qc Tryz.prog hs ks ⟨42, r⟩ k42_28 s = condV (s.regs.get undefV 20) (Qc Tryz.prog hs ks ⟨42, r⟩ k42_29) (Qc Tryz.prog hs ks ⟨42, r⟩ k42_30) s := Qc_cond (t := 20) (a := k42_29) (b := k42_30) (by kernel_rfl) _ _
noncomputable def k42_31 : Code := codeA k42_29
noncomputable def k42_32 : Code := codeB k42_29
theorem k42_29_c : Qc Tryz.prog hs ks ⟨42, r⟩ k42_29 s = thenV (Qc Tryz.prog hs ks ⟨42, r⟩ k42_31 s) (Qc Tryz.prog hs ks ⟨42, r⟩ k42_32) := Qc_seq (a := k42_31) (b := k42_32) (by kernel_rfl) _ _
theorem k42_31_c : Qc Tryz.prog hs ks ⟨42, r⟩ k42_31 s = Qo Tryz.prog hs ks k42_31 0 ⟨42, r⟩ s := Qc_region (id := 8) (ops := regOps k42_31) (by kernel_rfl) (by kernel_rfl) s
theorem k42_31_0 : Qo Tryz.prog hs ks k42_31 0 ⟨42, r⟩ s = stepV s (some 21) (val (build Tryz.prog 37 [])) (Qo Tryz.prog hs ks k42_31 1 ⟨42, r⟩) := oR (by kernel_rfl)
theorem k42_31_1 : Qo Tryz.prog hs ks k42_31 1 ⟨42, r⟩ s = stepV s none (xStore Tryz.prog 37 s.h.get (s.regs.get undefV 2) (s.regs.get undefV 21)) (Qo Tryz.prog hs ks k42_31 2 ⟨42, r⟩) := oR (by kernel_rfl)
theorem k42_31_2 : Qo Tryz.prog hs ks k42_31 2 ⟨42, r⟩ s = stepV s (some 3) (some { v := (.int .i64 (15)) }) (Qo Tryz.prog hs ks k42_31 3 ⟨42, r⟩) := oR (by kernel_rfl)
theorem k42_31_3 : Qo Tryz.prog hs ks k42_31 3 ⟨42, r⟩ s = some [(.normal, s)] := Qo_end (by kernel_rfl) s
theorem k42_32_c : Qc Tryz.prog hs ks ⟨42, r⟩ k42_32 s = some [(.ret, s)] := Qc_ret (by kernel_rfl) _ _
theorem k42_30_c : Qc Tryz.prog hs ks ⟨42, r⟩ k42_30 s = some [(.normal, s)] := Qc_skip (by kernel_rfl) _ _
noncomputable def k42_33 : Code := codeA k42_26
noncomputable def k42_34 : Code := codeB k42_26
theorem k42_26_c : Qc Tryz.prog hs ks ⟨42, r⟩ k42_26 s = thenV (Qc Tryz.prog hs ks ⟨42, r⟩ k42_33 s) (Qc Tryz.prog hs ks ⟨42, r⟩ k42_34) := Qc_seq (a := k42_33) (b := k42_34) (by kernel_rfl) _ _
noncomputable def k42_35 : Code := codeA k42_33
noncomputable def k42_36 : Code := codeB k42_33
theorem k42_33_c : Qc Tryz.prog hs ks ⟨42, r⟩ k42_33 s = thenV (Qc Tryz.prog hs ks ⟨42, r⟩ k42_35 s) (Qc Tryz.prog hs ks ⟨42, r⟩ k42_36) := Qc_seq (a := k42_35) (b := k42_36) (by kernel_rfl) _ _
theorem k42_35_c : Qc Tryz.prog hs ks ⟨42, r⟩ k42_35 s = Qo Tryz.prog hs ks k42_35 0 ⟨42, r⟩ s := Qc_region (id := 9) (ops := regOps k42_35) (by kernel_rfl) (by kernel_rfl) s
theorem k42_35_0 : Qo Tryz.prog hs ks k42_35 0 ⟨42, r⟩ s = stepV s (some 22) (xLoad Tryz.prog 37 s.h.get (s.regs.get undefV 1)) (Qo Tryz.prog hs ks k42_35 1 ⟨42, r⟩) := oR (by kernel_rfl)
theorem k42_35_1 : Qo Tryz.prog hs ks k42_35 1 ⟨42, r⟩ s = thenC (some 23) s (callS Tryz.prog hs ks 70 [(s.regs.get undefV 22)] s.h) (Qo Tryz.prog hs ks k42_35 2 ⟨42, r⟩) := cR (by kernel_rfl)
theorem k42_35_2 : Qo Tryz.prog hs ks k42_35 2 ⟨42, r⟩ s = some [(.normal, s)] := Qo_end (by kernel_rfl) s
noncomputable def k42_37 : Code := codeA k42_36
noncomputable def k42_38 : Code := codeB k42_36
theorem k42_36_c : Qc Tryz.prog hs ks ⟨42, r⟩ k42_36 s = condV (s.regs.get undefV 23) (Qc Tryz.prog hs ks ⟨42, r⟩ k42_37) (Qc Tryz.prog hs ks ⟨42, r⟩ k42_38) s := Qc_cond (t := 23) (a := k42_37) (b := k42_38) (by kernel_rfl) _ _
theorem k42_37_c : Qc Tryz.prog hs ks ⟨42, r⟩ k42_37 s = Qo Tryz.prog hs ks k42_37 0 ⟨42, r⟩ s := Qc_region (id := 10) (ops := regOps k42_37) (by kernel_rfl) (by kernel_rfl) s
theorem k42_37_0 : Qo Tryz.prog hs ks k42_37 0 ⟨42, r⟩ s = stepV s (some 24) (val (addrAdd (s.regs.get undefV 1) 0)) (Qo Tryz.prog hs ks k42_37 1 ⟨42, r⟩) := oR (by kernel_rfl)
theorem k42_37_1 : Qo Tryz.prog hs ks k42_37 1 ⟨42, r⟩ s = stepV s none (xStore Tryz.prog 3 s.h.get (s.regs.get undefV 24) (.int .i64 (0))) (Qo Tryz.prog hs ks k42_37 2 ⟨42, r⟩) := oR (by kernel_rfl)
theorem k42_37_2 : Qo Tryz.prog hs ks k42_37 2 ⟨42, r⟩ s = some [(.normal, s)] := Qo_end (by kernel_rfl) s
theorem k42_38_c : Qc Tryz.prog hs ks ⟨42, r⟩ k42_38 s = some [(.normal, s)] := Qc_skip (by kernel_rfl) _ _
noncomputable def k42_39 : Code := codeA k42_34
noncomputable def k42_40 : Code := codeB k42_34
theorem k42_34_c : Qc Tryz.prog hs ks ⟨42, r⟩ k42_34 s = thenV (Qc Tryz.prog hs ks ⟨42, r⟩ k42_39 s) (Qc Tryz.prog hs ks ⟨42, r⟩ k42_40) := Qc_seq (a := k42_39) (b := k42_40) (by kernel_rfl) _ _
theorem k42_39_c : Qc Tryz.prog hs ks ⟨42, r⟩ k42_39 s = Qo Tryz.prog hs ks k42_39 0 ⟨42, r⟩ s := Qc_region (id := 11) (ops := regOps k42_39) (by kernel_rfl) (by kernel_rfl) s
theorem k42_39_0 : Qo Tryz.prog hs ks k42_39 0 ⟨42, r⟩ s = stepV s (some 25) (xLoad Tryz.prog 37 s.h.get (s.regs.get undefV 1)) (Qo Tryz.prog hs ks k42_39 1 ⟨42, r⟩) := oR (by kernel_rfl)
theorem k42_39_1 : Qo Tryz.prog hs ks k42_39 1 ⟨42, r⟩ s = stepV s none (xStore Tryz.prog 37 s.h.get (s.regs.get undefV 2) (s.regs.get undefV 25)) (Qo Tryz.prog hs ks k42_39 2 ⟨42, r⟩) := oR (by kernel_rfl)
theorem k42_39_2 : Qo Tryz.prog hs ks k42_39 2 ⟨42, r⟩ s = stepV s (some 3) (some { v := (.int .i64 (0)) }) (Qo Tryz.prog hs ks k42_39 3 ⟨42, r⟩) := oR (by kernel_rfl)
theorem k42_39_3 : Qo Tryz.prog hs ks k42_39 3 ⟨42, r⟩ s = some [(.normal, s)] := Qo_end (by kernel_rfl) s
theorem k42_40_c : Qc Tryz.prog hs ks ⟨42, r⟩ k42_40 s = some [(.ret, s)] := Qc_ret (by kernel_rfl) _ _
/-! function 43 -/
noncomputable def k43 : Code := Tryz.f43.body.getD .skip
theorem k43_fun (args : List V) (ha : args.length ≤ 5) (h : H) : (EV Tryz.prog hs ks).call 43 args h = endsV Tryz.prog hs ks Tryz.f43 (Qc Tryz.prog hs ks ⟨43, none⟩ k43 (S 5 (setF args 0 fun _ => undefV) [] h)) := EV_fun Tryz.func43 (by kernel_rfl) (by kernel_rfl) (by decide) ha h
theorem k43_ret (f : Nat → V) (h : H) : endsV Tryz.prog hs ks Tryz.f43 (some [(.ret, S 5 f [] h)]) = resV (resultVs Tryz.prog (S 5 f [] h) [.cell 2 37]) h := ends_one (by kernel_rfl) (Or.inl rfl) _ _
theorem k43_nrm (f : Nat → V) (h : H) : endsV Tryz.prog hs ks Tryz.f43 (some [(.normal, S 5 f [] h)]) = resV (resultVs Tryz.prog (S 5 f [] h) [.cell 2 37]) h := ends_one (by kernel_rfl) (Or.inr rfl) _ _
noncomputable def k43_0 : Code := codeA k43
noncomputable def k43_1 : Code := codeB k43
theorem k43_c : Qc Tryz.prog hs ks ⟨43, r⟩ k43 s = thenV (Qc Tryz.prog hs ks ⟨43, r⟩ k43_0 s) (Qc Tryz.prog hs ks ⟨43, r⟩ k43_1) := Qc_seq (a := k43_0) (b := k43_1) (by kernel_rfl) _ _
theorem k43_0_c : Qc Tryz.prog hs ks ⟨43, r⟩ k43_0 s = Qo Tryz.prog hs ks k43_0 0 ⟨43, r⟩ s := Qc_region (id := 0) (ops := regOps k43_0) (by kernel_rfl) (by kernel_rfl) s
theorem k43_0_0 : Qo Tryz.prog hs ks k43_0 0 ⟨43, r⟩ s = stepV s (some 2) (some { v := .ptr s.h.n 0, nw := [.row 0 [.int .i64 (0), .nils]] }) (Qo Tryz.prog hs ks k43_0 1 ⟨43, r⟩) := oR (by kernel_rfl)
theorem k43_0_1 : Qo Tryz.prog hs ks k43_0 1 ⟨43, r⟩ s = some [(.normal, s)] := Qo_end (by kernel_rfl) s
noncomputable def k43_2 : Code := codeA k43_1
noncomputable def k43_3 : Code := codeB k43_1
theorem k43_1_c : Qc Tryz.prog hs ks ⟨43, r⟩ k43_1 s = thenV (Qc Tryz.prog hs ks ⟨43, r⟩ k43_2 s) (Qc Tryz.prog hs ks ⟨43, r⟩ k43_3) := Qc_seq (a := k43_2) (b := k43_3) (by kernel_rfl) _ _
theorem k43_2_c : Qc Tryz.prog hs ks ⟨43, r⟩ k43_2 s = Qo Tryz.prog hs ks k43_2 0 ⟨43, r⟩ s := Qc_region (id := 1) (ops := regOps k43_2) (by kernel_rfl) (by kernel_rfl) s
theorem k43_2_0 : Qo Tryz.prog hs ks k43_2 0 ⟨43, r⟩ s = stepV s (some 3) (some { v := (s.regs.get undefV 0) }) (Qo Tryz.prog hs ks k43_2 1 ⟨43, r⟩) := oR (by kernel_rfl)
theorem k43_2_1 : Qo Tryz.prog hs ks k43_2 1 ⟨43, r⟩ s = stepV s (some 4) (val (build Tryz.prog 37 [(0, (s.regs.get undefV 3))])) (Qo Tryz.prog hs ks k43_2 2 ⟨43, r⟩) := oR (by kernel_rfl)
theorem k43_2_2 : Qo Tryz.prog hs ks k43_2 2 ⟨43, r⟩ s = stepV s none (xStore Tryz.prog 37 s.h.get (s.regs.get undefV 2) (s.regs.get undefV 4)) (Qo Tryz.prog hs ks k43_2 3 ⟨43, r⟩) := oR (by kernel_rfl)
theorem k43_2_3 : Qo Tryz.prog hs ks k43_2 3 ⟨43, r⟩ s = some [(.normal, s)] := Qo_end (by kernel_rfl) s
theorem k43_3_c : Qc Tryz.prog hs ks ⟨43, r⟩ k43_3 s = some [(.ret, s)] := Qc_ret (by kernel_rfl) _ _
/-! function 44 -/
noncomputable def k44 : Code := Tryz.f44.body.getD .skip
theorem k44_fun (args : List V) (ha : args.length ≤ 67) (h : H) : (EV Tryz.prog hs ks).call 44 args h = endsV Tryz.prog hs ks Tryz.f44 (Qc Tryz.prog hs ks ⟨44, none⟩ k44 (S 67 (setF args 0 fun _ => undefV) [] h)) := EV_fun Tryz.func44 (by kernel_rfl) (by kernel_rfl) (by decide) ha h
theorem k44_ret (f : Nat → V) (h : H) : endsV Tryz.prog hs ks Tryz.f44 (some [(.ret, S 67 f [] h)]) = resV (resultVs Tryz.prog (S 67 f [] h) [.tmp 2]) h := ends_one (by kernel_rfl) (Or.inl rfl) _ _
theorem k44_nrm (f : Nat → V) (h : H) : endsV Tryz.prog hs ks Tryz.f44 (some [(.normal, S 67 f [] h)]) = resV (resultVs Tryz.prog (S 67 f [] h) [.tmp 2]) h := ends_one (by kernel_rfl) (Or.inr rfl) _ _
noncomputable def k44_0 : Code := codeA k44
noncomputable def k44_1 : Code := codeB k44
theorem k44_c : Qc Tryz.prog hs ks ⟨44, r⟩ k44 s = thenV (Qc Tryz.prog hs ks ⟨44, r⟩ k44_0 s) (Qc Tryz.prog hs ks ⟨44, r⟩ k44_1) := Qc_seq (a := k44_0) (b := k44_1) (by kernel_rfl) _ _
theorem k44_0_c : Qc Tryz.prog hs ks ⟨44, r⟩ k44_0 s = Qo Tryz.prog hs ks k44_0 0 ⟨44, r⟩ s := Qc_region (id := 0) (ops := regOps k44_0) (by kernel_rfl) (by kernel_rfl) s
theorem k44_0_0 : Qo Tryz.prog hs ks k44_0 0 ⟨44, r⟩ s = stepV s (some 1) (some { v := .ptr s.h.n 0, nw := [.row 0 (V.cells (s.regs.get undefV 0))] }) (Qo Tryz.prog hs ks k44_0 1 ⟨44, r⟩) := oR (by kernel_rfl)
theorem k44_0_1 : Qo Tryz.prog hs ks k44_0 1 ⟨44, r⟩ s = stepV s (some 2) (some { v := (.bool false) }) (Qo Tryz.prog hs ks k44_0 2 ⟨44, r⟩) := oR (by kernel_rfl)
theorem k44_0_2 : Qo Tryz.prog hs ks k44_0 2 ⟨44, r⟩ s = some [(.normal, s)] := Qo_end (by kernel_rfl) s
noncomputable def k44_2 : Code := codeA k44_1
noncomputable def k44_3 : Code := codeB k44_1
theorem k44_1_c : Qc Tryz.prog hs ks ⟨44, r⟩ k44_1 s = thenV (Qc Tryz.prog hs ks ⟨44, r⟩ k44_2 s) (Qc Tryz.prog hs ks ⟨44, r⟩ k44_3) := Qc_seq (a := k44_2) (b := k44_3) (by kernel_rfl) _ _
noncomputable def k44_4 : Code := codeA k44_2
noncomputable def k44_5 : Code := codeB k44_2
theorem k44_2_c : Qc Tryz.prog hs ks ⟨44, r⟩ k44_2 s = thenV (Qc Tryz.prog hs ks ⟨44, r⟩ k44_4 s) (Qc Tryz.prog hs ks ⟨44, r⟩ k44_5) := Qc_seq (a := k44_4) (b := k44_5) (by kernel_rfl) _ _
theorem k44_4_c : Qc Tryz.prog hs ks ⟨44, r⟩ k44_4 s = Qo Tryz.prog hs ks k44_4 0 ⟨44, r⟩ s := Qc_region (id := 1) (ops := regOps k44_4) (by kernel_rfl) (by kernel_rfl) s
theorem k44_4_0 : Qo Tryz.prog hs ks k44_4 0 ⟨44, r⟩ s = stepV s (some 5) (val (addrAdd (s.regs.get undefV 1) 0)) (Qo Tryz.prog hs ks k44_4 1 ⟨44, r⟩) := oR (by kernel_rfl)
theorem k44_4_1 : Qo Tryz.prog hs ks k44_4 1 ⟨44, r⟩ s = stepV s (some 6) (xLoad Tryz.prog 3 s.h.get (s.regs.get undefV 5)) (Qo Tryz.prog hs ks k44_4 2 ⟨44, r⟩) := oR (by kernel_rfl)
theorem k44_4_2 : Qo Tryz.prog hs ks k44_4 2 ⟨44, r⟩ s = stepV s (some 7) (val (binV Tryz.prog .lss 3 false true (s.regs.get undefV 6) (.int .i64 (0)))) (Qo Tryz.prog hs ks k44_4 3 ⟨44, r⟩) := oR (by kernel_rfl)
theorem k44_4_3 : Qo Tryz.prog hs ks k44_4 3 ⟨44, r⟩ s = stepV s (some 8) (some { v := (s.regs.get undefV 7) }) (Qo Tryz.prog hs ks k44_4 4 ⟨44, r⟩) := oR (by kernel_rfl)
theorem k44_4_4 : Qo Tryz.prog hs ks k44_4 4 ⟨44, r⟩ s = if wantB (s.regs.get undefV 8) false = true then stepV s (some 9) (val (addrAdd (s.regs.get undefV 1) 0)) (Qo Tryz.prog hs ks k44_4 5 ⟨44, r⟩) else Qo Tryz.prog hs ks k44_4 5 ⟨44, r⟩ (skipS s (some 9)) := oI (by kernel_rfl)
theorem k44_4_5 : Qo Tryz.prog hs ks k44_4 5 ⟨44, r⟩ s = if wantB (s.regs.get undefV 8) false = true then stepV s (some 10) (xLoad Tryz.prog 3 s.h.get (s.regs.get undefV 9)) (Qo Tryz.prog hs ks k44_4 6 ⟨44, r⟩) else Qo Tryz.prog hs ks k44_4 6 ⟨44, r⟩ (skipS s (some 10)) := oI (by kernel_rfl)
theorem k44_4_6 : Qo Tryz.prog hs ks k44_4 6 ⟨44, r⟩ s = if wantB (s.regs.get undefV 8) false = true then stepV s (some 11) (val (binV Tryz.prog .gtr 3 false true (s.regs.get undefV 10) (.int .i64 (100)))) (Qo Tryz.prog hs ks k44_4 7 ⟨44, r⟩) else Qo Tryz.prog hs ks k44_4 7 ⟨44, r⟩ (skipS s (some 11)) := oI (by kernel_rfl)
theorem k44_4_7 : Qo Tryz.prog hs ks k44_4 7 ⟨44, r⟩ s = stepV s (some 12) (xPick (s.regs.get undefV 8) (.bool true) (s.regs.get undefV 11)) (Qo Tryz.prog hs ks k44_4 8 ⟨44, r⟩) := oR (by kernel_rfl)
theorem k44_4_8 : Qo Tryz.prog hs ks k44_4 8 ⟨44, r⟩ s = some [(.normal, s)] := Qo_end (by kernel_rfl) s
noncomputable def k44_6 : Code := codeA k44_5
noncomputable def k44_7 : Code := codeB k44_5
theorem k44_5_c : Qc Tryz.prog hs ks ⟨44, r⟩ k44_5 s = condV (s.regs.get undefV 12) (Qc Tryz.prog hs ks ⟨44, r⟩ k44_6) (Qc Tryz.prog hs ks ⟨44, r⟩ k44_7) s := Qc_cond (t := 12) (a := k44_6) (b := k44_7) (by kernel_rfl) _ _
noncomputable def k44_8 : Code := codeA k44_6
noncomputable def k44_9 : Code := codeB k44_6
theorem k44_6_c : Qc Tryz.prog hs ks ⟨44, r⟩ k44_6 s = thenV (Qc Tryz.prog hs ks ⟨44, r⟩ k44_8 s) (Qc Tryz.prog hs ks ⟨44, r⟩ k44_9) := Qc_seq (a := k44_8) (b := k44_9) (by kernel_rfl) _ _
theorem k44_8_c : Qc Tryz.prog hs ks ⟨44, r⟩ k44_8 s = Qo Tryz.prog hs ks k44_8 0 ⟨44, r⟩ s := Qc_region (id := 2) (ops := regOps k44_8) (by kernel_rfl) (by kernel_rfl) s
theorem k44_8_0 : Qo Tryz.prog hs ks k44_8 0 ⟨44, r⟩ s = stepV s (some 2) (some { v := (.bool false) }) (Qo Tryz.prog hs ks k44_8 1 ⟨44, r⟩) := oR (by kernel_rfl)
theorem k44_8_1 : Qo Tryz.prog hs ks k44_8 1 ⟨44, r⟩ s = some [(.normal, s)] := Qo_end (by kernel_rfl) s
theorem k44_9_c : Qc Tryz.prog hs ks ⟨44, r⟩ k44_9 s = some [(.ret, s)] := Qc_ret (by kernel_rfl) _ _
theorem k44_7_c : Qc Tryz.prog hs ks ⟨44, r⟩ k44_7 s = some [(.normal, s)] := Qc_skip (by kernel_rfl) _ _
noncomputable def k44_10 : Code := codeA k44_3
noncomputable def k44_11 : Code := codeB k44_3
theorem k44_3_c : Qc Tryz.prog hs ks ⟨44, r⟩ k44_3 s = thenV (Qc Tryz.prog hs ks ⟨44, r⟩ k44_10 s) (Qc Tryz.prog hs ks ⟨44, r⟩ k44_11) := Qc_seq (a := k44_10) (b := k44_11) (by kernel_rfl) _ _
noncomputable def k44_12 : Code := codeA k44_10
noncomputable def k44_13 : Code := codeB k44_10
theorem k44_10_c : Qc Tryz.prog hs ks ⟨44, r⟩ k44_10 s = thenV (Qc Tryz.prog hs ks ⟨44, r⟩ k44_12 s) (Qc Tryz.prog hs ks ⟨44, r⟩ k44_13) := Qc_seq (a := k44_12) (b := k44_13) (by kernel_rfl) _ _
theorem k44_12_c : Qc Tryz.prog hs ks ⟨44, r⟩ k44_12 s = Qo Tryz.prog hs ks k44_12 0 ⟨44, r⟩ s := Qc_region (id := 3) (ops := regOps k44_12) (by kernel_rfl) (by kernel_rfl) s
theorem k44_12_0 : Qo Tryz.prog hs ks k44_12 0 ⟨44, r⟩ s = stepV s (some 3) (some { v := (.int .i64 (0)) }) (Qo Tryz.prog hs ks k44_12 1 ⟨44, r⟩) := oR (by kernel_rfl)
theorem k44_12_1 : Qo Tryz.prog hs ks k44_12 1 ⟨44, r⟩ s = some [(.normal, s)] := Qo_end (by kernel_rfl) s
noncomputable def k44_14 : Code := codeA k44_13
theorem k44_13_c : Qc Tryz.prog hs ks ⟨44, r⟩ k44_13 s = blockV 0 (Qc Tryz.prog hs ks ⟨44, r⟩ k44_14 s) := Qc_block (b := k44_14) (by kernel_rfl) _ _
noncomputable def k44_15 : Code := codeA k44_14
theorem k44_14_l : Qc Tryz.prog hs ks ⟨44, r⟩ k44_14 s = thenV (Qc Tryz.prog hs ks ⟨44, r⟩ k44_15 s) (Qc Tryz.prog hs ks ⟨44, r⟩ k44_14) := Qc_loop (b := k44_15) (by kernel_rfl) _ _
noncomputable def k44_16 : Code := codeA k44_15
noncomputable def k44_17 : Code := codeB k44_15
theorem k44_15_c : Qc Tryz.prog hs ks ⟨44, r⟩ k44_15 s = thenV (Qc Tryz.prog hs ks ⟨44, r⟩ k44_16 s) (Qc Tryz.prog hs ks ⟨44, r⟩ k44_17) := Qc_seq (a := k44_16) (b := k44_17) (by kernel_rfl) _ _
noncomputable def k44_18 : Code := codeA k44_16
noncomputable def k44_19 : Code := codeB k44_16
theorem k44_16_c : Qc Tryz.prog hs ks ⟨44, r⟩ k44_16 s = thenV (Qc Tryz.prog hs ks ⟨44, r⟩ k44_18 s) (Qc Tryz.prog hs ks ⟨44, r⟩ k44_19) := Qc_seq (a := k44_18) (b := k44_19) (by kernel_rfl) _ _
theorem k44_18_c : Qc Tryz.prog hs ks ⟨44, r⟩ k44_18 s = Qo Tryz.prog hs ks k44_18 0 ⟨44, r⟩ s := Qc_region (id := 4) (ops := regOps k44_18) (by kernel_rfl) (by kernel_rfl) s
theorem k44_18_0 : Qo Tryz.prog hs ks k44_18 0 ⟨44, r⟩ s = stepV s (some 13) (some { v := (s.regs.get undefV 3) }) (Qo Tryz.prog hs ks k44_18 1 ⟨44, r⟩) := oR (by kernel_rfl)
theorem k44_18_1 : Qo Tryz.prog hs ks k44_18 1 ⟨44, r⟩ s = stepV s (some 14) (val (addrAdd (s.regs.get undefV 1) 1)) (Qo Tryz.prog hs ks k44_18 2 ⟨44, r⟩) := oR (by kernel_rfl)
theorem k44_18_2 : Qo Tryz.prog hs ks k44_18 2 ⟨44, r⟩ s = stepV s (some 15) (xLoad Tryz.prog 35 s.h.get (s.regs.get undefV 14)) (Qo Tryz.prog hs ks k44_18 3 ⟨44, r⟩) := oR (by kernel_rfl)
theorem k44_18_3 : Qo Tryz.prog hs ks k44_18 3 ⟨44, r⟩ s = stepV s (some 16) (builtinV Tryz.prog false s.h.get s.h.n .len [35] [(s.regs.get undefV 15)]) (Qo Tryz.prog hs ks k44_18 4 ⟨44, r⟩) := oR (by kernel_rfl)
theorem k44_18_4 : Qo Tryz.prog hs ks k44_18 4 ⟨44, r⟩ s = stepV s (some 17) (val (binV Tryz.prog .lss 3 false false (s.regs.get undefV 13) (s.regs.get undefV 16))) (Qo Tryz.prog hs ks k44_18 5 ⟨44, r⟩) := oR (by kernel_rfl)
theorem k44_18_5 : Qo Tryz.prog hs ks k44_18 5 ⟨44, r⟩ s = some [(.normal, s)] := Qo_end (by kernel_rfl) s
noncomputable def k44_20 : Code := codeA k44_19
noncomputable def k44_21 : Code := codeB k44_19
theorem k44_19_c : Qc Tryz.prog hs ks ⟨44, r⟩ k44_19 s = condV (s.regs.get undefV 17) (Qc Tryz.prog hs ks ⟨44, r⟩ k44_20) (Qc Tryz.prog hs ks ⟨44, r⟩ k44_21) s := Qc_cond (t := 17) (a := k44_20) (b := k44_21) (by kernel_rfl) _ _
theorem k44_20_c : Qc Tryz.prog hs ks ⟨44, r⟩ k44_20 s = some [(.normal, s)] := Qc_skip (by kernel_rfl) _ _
theorem k44_21_c : Qc Tryz.prog hs ks ⟨44, r⟩ k44_21 s = some [(.exit 0, s)] := Qc_exit (by kernel_rfl) _ _
noncomputable def k44_22 : Code := codeA k44_17
noncomputable def k44_23 : Code := codeB k44_17
theorem k44_17_c : Qc Tryz.prog hs ks ⟨44, r⟩ k44_17 s = thenV (Qc Tryz.prog hs ks ⟨44, r⟩ k44_22 s) (Qc Tryz.prog hs ks ⟨44, r⟩ k44_23) := Qc_seq (a := k44_22) (b := k44_23) (by kernel_rfl) _ _
noncomputable def k44_24 : Code := codeA k44_22
theorem k44_22_c : Qc Tryz.prog hs ks ⟨44, r⟩ k44_22 s = blockV 1 (Qc Tryz.prog hs ks ⟨44, r⟩ k44_24 s) := Qc_block (b := k44_24) (by kernel_rfl) _ _
noncomputable def k44_25 : Code := codeA k44_24
noncomputable def k44_26 : Code := codeB k44_24
theorem k44_24_c : Qc Tryz.prog hs ks ⟨44, r⟩ k44_24 s = thenV (Qc Tryz.prog hs ks ⟨44, r⟩ k44_25 s) (Qc Tryz.prog hs ks ⟨44, r⟩ k44_26) := Qc_seq (a := k44_25) (b := k44_26) (by kernel_rfl) _ _
theorem k44_25_c : Qc Tryz.prog hs ks ⟨44, r⟩ k44_25 s = Qo Tryz.prog hs ks k44_25 0 ⟨44, r⟩ s := Qc_region (id := 6) (ops := regOps k44_25) (by kernel_rfl) (by kernel_rfl) s
theorem k44_25_0 : Qo Tryz.prog hs ks k44_25 0 ⟨44, r⟩ s = stepV s (some 20) (val (addrAdd (s.regs.get undefV 1) 1)) (Qo Tryz.prog hs ks k44_25 1 ⟨44, r⟩) := oR (by kernel_rfl)
theorem k44_25_1 : Qo Tryz.prog hs ks k44_25 1 ⟨44, r⟩ s = stepV s (some 21) (xLoad Tryz.prog 35 s.h.get (s.regs.get undefV 20)) (Qo Tryz.prog hs ks k44_25 2 ⟨44, r⟩) := oR (by kernel_rfl)
theorem k44_25_2 : Qo Tryz.prog hs ks k44_25 2 ⟨44, r⟩ s = stepV s (some 22) (some { v := (s.regs.get undefV 3) }) (Qo Tryz.prog hs ks k44_25 3 ⟨44, r⟩) := oR (by kernel_rfl)
theorem k44_25_3 : Qo Tryz.prog hs ks k44_25 3 ⟨44, r⟩ s = stepV s (some 23) (val (indexAddr Tryz.prog 35 (s.regs.get undefV 21) (s.regs.get undefV 22))) (Qo Tryz.prog hs ks k44_25 4 ⟨44, r⟩) := oR (by kernel_rfl)
theorem k44_25_4 : Qo Tryz.prog hs ks k44_25 4 ⟨44, r⟩ s = stepV s (some 24) (xLoad Tryz.prog 74 s.h.get (s.regs.get undefV 23)) (Qo Tryz.prog hs ks k44_25 5 ⟨44, r⟩) := oR (by kernel_rfl)
theorem k44_25_5 : Qo Tryz.prog hs ks k44_25 5 ⟨44, r⟩ s = stepV s (some 4) (some { v := .ptr s.h.n 0, nw := [.row 0 [.int .i64 (0), .int .i64 (0)]] }) (Qo Tryz.prog hs ks k44_25 6 ⟨44, r⟩) := oR (by kernel_rfl)
theorem k44_25_6 : Qo Tryz.prog hs ks k44_25 6 ⟨44, r⟩ s = stepV s none (xStore Tryz.prog 74 s.h.get (s.regs.get undefV 4) (s.regs.get undefV 24)) (Qo Tryz.prog hs ks k44_25 7 ⟨44, r⟩) := oR (by kernel_rfl)
theorem k44_25_7 : Qo Tryz.prog hs ks k44_25 7 ⟨44, r⟩ s = some [(.normal, s)] := Qo_end (by kernel_rfl) s
noncomputable def k44_27 : Code := codeA k44_26
noncomputable def k44_28 : Code := codeB k44_26
theorem k44_26_c : Qc Tryz.prog hs ks ⟨44, r⟩ k44_26 s = thenV (Qc Tryz.prog hs ks ⟨44, r⟩ k44_27 s) (Qc Tryz.prog hs ks ⟨44, r⟩ k44_28) := Qc_seq (a := k44_27) (b := k44_28) (by kernel_rfl) _ _
noncomputable def k44_29 : Code := codeA k44_27
noncomputable def k44_30 : Code := codeB k44_27
theorem k44_27_c : Qc Tryz.prog hs ks ⟨44, r⟩ k44_27 s = thenV (Qc Tryz.prog hs ks ⟨44, r⟩ k44_29 s) (Qc Tryz.prog hs ks ⟨44, r⟩ k44_30) := Qc_seq (a := k44_29) (b := k44_30) (by kernel_rfl) _ _
theorem k44_29_c : Qc Tryz.prog hs ks ⟨44, r⟩ k44_29 s = Qo Tryz.prog hs ks k44_29 0 ⟨44, r⟩ s := Qc_region (id := 7) (ops := regOps k44_29) (by kernel_rfl) (by kernel_rfl) s
theorem k44_29_0 : Qo Tryz.prog hs ks k44_29 0 ⟨44, r⟩ s = stepV s (some 25) (val (addrAdd (s.regs.get undefV 4) 0)) (Qo Tryz.prog hs ks k44_29 1 ⟨44, r⟩) := oR (by kernel_rfl)
theorem k44_29_1 : Qo Tryz.prog hs ks k44_29 1 ⟨44, r⟩ s = stepV s (some 26) (xLoad Tryz.prog 3 s.h.get (s.regs.get undefV 25)) (Qo Tryz.prog hs ks k44_29 2 ⟨44, r⟩) := oR (by kernel_rfl)
theorem k44_29_2 : Qo Tryz.prog hs ks k44_29 2 ⟨44, r⟩ s = stepV s (some 27) (val (binV Tryz.prog .lss 3 false true (s.regs.get undefV 26) (.int .i64 (-65536)))) (Qo Tryz.prog hs ks k44_29 3 ⟨44, r⟩) := oR (by kernel_rfl)
theorem k44_29_3 : Qo Tryz.prog hs ks k44_29 3 ⟨44, r⟩ s = stepV s (some 28) (some { v := (s.regs.get undefV 27) }) (Qo Tryz.prog hs ks k44_29 4 ⟨44, r⟩) := oR (by kernel_rfl)
theorem k44_29_4 : Qo Tryz.prog hs ks k44_29 4 ⟨44, r⟩ s = if wantB (s.regs.get undefV 28) false = true then stepV s (some 29) (val (addrAdd (s.regs.get undefV 4) 0)) (Qo Tryz.prog hs ks k44_29 5 ⟨44, r⟩) else Qo Tryz.prog hs ks k44_29 5 ⟨44, r⟩ (skipS s (some 29)) := oI (by kernel_rfl)
theorem k44_29_5 : Qo Tryz.prog hs ks k44_29 5 ⟨44, r⟩ s = if wantB (s.regs.get undefV 28) false = true then stepV s (some 30) (xLoad Tryz.prog 3 s.h.get (s.regs.get undefV 29)) (Qo Tryz.prog hs ks k44_29 6 ⟨44, r⟩) else Qo Tryz.prog hs ks k44_29 6 ⟨44, r⟩ (skipS s (some 30)) := oI (by kernel_rfl)
theorem k44_29_6 : Qo Tryz.prog hs ks k44_29 6 ⟨44, r⟩ s = if wantB (s.regs.get undefV 28) false = true then stepV s (some 31) (val (binV Tryz.prog .geq 3 false true (s.regs.get undefV 30) (.int .i64 (8)))) (Qo Tryz.prog hs ks k44_29 7 ⟨44, r⟩) else Qo Tryz.prog hs ks k44_29 7 ⟨44, r⟩ (skipS s (some 31)) := oI (by kernel_rfl)
theorem k44_29_7 : Qo Tryz.prog hs ks k44_29 7 ⟨44, r⟩ s = stepV s (some 32) (xPick (s.regs.get undefV 28) (.bool true) (s.regs.get undefV 31)) (Qo Tryz.prog hs ks k44_29 8 ⟨44, r⟩) := oR (by kernel_rfl)
theorem k44_29_8 : Qo Tryz.prog hs ks k44_29 8 ⟨44, r⟩ s = stepV s (some 33) (some { v := (s.regs.get undefV 32) }) (Qo Tryz.prog hs ks k44_29 9 ⟨44, r⟩) := oR (by kernel_rfl)
theorem k44_29_9 : Qo Tryz.prog hs ks k44_29 9 ⟨44, r⟩ s = if wantB (s.regs.get undefV 33) false = true then stepV s (some 34) (val (addrAdd (s.regs.get undefV 4) 1)) (Qo Tryz.prog hs ks k44_29 10 ⟨44, r⟩) else Qo Tryz.prog hs ks k44_29 10 ⟨44, r⟩ (skipS s (some 34)) := oI (by kernel_rfl)
theorem k44_29_10 : Qo Tryz.prog hs ks k44_29 10 ⟨44, r⟩ s = if wantB (s.regs.get undefV 33) false = true then stepV s (some 35) (xLoad Tryz.prog 3 s.h.get (s.regs.get undefV 34)) (Qo Tryz.prog hs ks k44_29 11 ⟨44, r⟩) else Qo Tryz.prog hs ks k44_29 11 ⟨44, r⟩ (skipS s (some 35)) := oI (by kernel_rfl)
theorem k44_29_11 : Qo Tryz.prog hs ks k44_29 11 ⟨44, r⟩ s = if wantB (s.regs.get undefV 33) false = true then stepV s (some 36) (val (binV Tryz.prog .lss 3 false true (s.regs.get undefV 35) (.int .i64 (0)))) (Qo Tryz.prog hs ks k44_29 12 ⟨44, r⟩) else Qo Tryz.prog hs ks k44_29 12 ⟨44, r⟩ (skipS s (some 36)) := oI (by kernel_rfl)
theorem k44_29_12 : Qo Tryz.prog hs ks k44_29 12 ⟨44, r⟩ s = stepV s (some 37) (xPick (s.regs.get undefV 33) (.bool true) (s.regs.get undefV 36)) (Qo Tryz.prog hs ks k44_29 13 ⟨44, r⟩) := oR (by kernel_rfl)
theorem k44_29_13 : Qo Tryz.prog hs ks k44_29 13 ⟨44, r⟩ s = stepV s (some 38) (some { v := (s.regs.get undefV 37) }) (Qo Tryz.prog hs ks k44_29 14 ⟨44, r⟩) := oR (by kernel_rfl)
theorem k44_29_14 : Qo Tryz.prog hs ks k44_29 14 ⟨44, r⟩ s = if wantB (s.regs.get undefV 38) false = true then stepV s (some 39) (val (addrAdd (s.regs.get undefV 4) 1)) (Qo Tryz.prog hs ks k44_29 15 ⟨44, r⟩) else Qo Tryz.prog hs ks k44_29 15 ⟨44, r⟩ (skipS s (some 39)) := oI (by kernel_rfl)
theorem k44_29_15 : Qo Tryz.prog hs ks k44_29 15 ⟨44, r⟩ s = if wantB (s.regs.get undefV 38) false = true then stepV s (some 40) (xLoad Tryz.prog 3 s.h.get (s.regs.get undefV 39)) (Qo Tryz.prog hs ks k44_29 16 ⟨44, r⟩) else Qo Tryz.prog hs ks k44_29 16 ⟨44, r⟩ (skipS s (some 40)) := oI (by kernel_rfl)
theorem k44_29_16 : Qo Tryz.prog hs ks k44_29 16 ⟨44, r⟩ s = if wantB (s.regs.get undefV 38) false = true then stepV s (some 41) (val (binV Tryz.prog .gtr 3 false true (s.regs.get undefV 40) (.int .i64 (100)))) (Qo Tryz.prog hs ks k44_29 17 ⟨44, r⟩) else Qo Tryz.prog hs ks k44_29 17 ⟨44, r⟩ (skipS s (some 41)) := oI (by kernel_rfl)
theorem k44_29_17 : Qo Tryz.prog hs ks k44_29 17 ⟨44, r⟩ s = stepV s (some 42) (xPick (s.regs.get undefV 38) (.bool true) (s.regs.get undefV 41)) (Qo Tryz.prog hs ks k44_29 18 ⟨44, r⟩) := oR (by kernel_rfl)
theorem k44_29_18 : Qo Tryz.prog hs ks k44_29 18 ⟨44, r⟩ s = some [(.normal, s)] := Qo_end (by kernel_rfl) s
noncomputable def k44_31 : Code := codeA k44_30
noncomputable def k44_32 : Code := codeB k44_30
theorem k44_30_c : Qc Tryz.prog hs ks ⟨44, r⟩ k44_30 s = condV (s.regs.get undefV 42) (Qc Tryz.prog hs ks ⟨44, r⟩ k44_31) (Qc Tryz.prog hs ks ⟨44, r⟩ k44_32) s := Qc_cond (t := 42) (a := k44_31) (b := k44_32) (by kernel_rfl) _ _
noncomputable def k44_33 : Code := codeA k44_31
noncomputable def k44_34 : Code := codeB k44_31
theorem k44_31_c : Qc Tryz.prog hs ks ⟨44, r⟩ k44_31 s = thenV (Qc Tryz.prog hs ks ⟨44, r⟩ k44_33 s) (Qc Tryz.prog hs ks ⟨44, r⟩ k44_34) := Qc_seq (a := k44_33) (b := k44_34) (by kernel_rfl) _ _
theorem k44_33_c : Qc Tryz.prog hs ks ⟨44, r⟩ k44_33 s = Qo Tryz.prog hs ks k44_33 0 ⟨44, r⟩ s := Qc_region (id := 8) (ops := regOps k44_33) (by kernel_rfl) (by kernel_rfl) s
theorem k44_33_0 : Qo Tryz.prog hs ks k44_33 0 ⟨44, r⟩ s = stepV s (some 2) (some { v := (.bool false) }) (Qo Tryz.prog hs ks k44_33 1 ⟨44, r⟩) := oR (by kernel_rfl)
theorem k44_33_1 : Qo Tryz.prog hs ks k44_33 1 ⟨44, r⟩ s = some [(.normal, s)] := Qo_end (by kernel_rfl) s
theorem k44_34_c : Qc Tryz.prog hs ks ⟨44, r⟩ k44_34 s = some [(.ret, s)] := Qc_ret (by kernel_rfl) _ _
theorem k44_32_c : Qc Tryz.prog hs ks ⟨44, r⟩ k44_32 s = some [(.normal, s)] := Qc_skip (by kernel_rfl) _ _
noncomputable def k44_35 : Code := codeA k44_28
noncomputable def k44_36 : Code := codeB k44_28
theorem k44_28_c : Qc Tryz.prog hs ks ⟨44, r⟩ k44_28 s = thenV (Qc Tryz.prog hs ks ⟨44, r⟩ k44_35 s) (Qc Tryz.prog hs ks ⟨44, r⟩ k44_36) := Qc_seq (a := k44_35) (b := k44_36) (by kernel_rfl) _ _
noncomputable def k44_37 : Code := codeA k44_35
noncomputable def k44_38 : Code := codeB k44_35
theorem k44_35_c : Qc Tryz.prog hs ks ⟨44, r⟩ k44_35 s = thenV (Qc Tryz.prog hs ks ⟨44, r⟩ k44_37 s) (Qc Tryz.prog hs ks ⟨44, r⟩ k44_38) := Qc_seq (a := k44_37) (b := k44_38) (by kernel_rfl) _ _
noncomputable def k44_37_bef : List Nat := [0, 1, 3, 7, 15, 7, 39, 127, 255, 511, 7, 1031, 4095, 8191]
theorem k44_37_c : Qc Tryz.prog hs ks ⟨44, r⟩ k44_37 s = Qd Tryz.prog hs ks k44_37 k44_37_bef 0 ⟨44, r⟩ [] s := Qc_draw (id := 9) (ops := regOps k44_37) (by kernel_rfl) (by kernel_rfl) (by kernel_rfl) (by kernel_rfl) s
theorem k44_37_0 : Qd Tryz.prog hs ks k44_37 k44_37_bef 0 ⟨44, r⟩ dn s = stepD s (some 43) 0 k44_37_bef dn (some { v := (s.regs.get undefV 3) }) (Qd Tryz.prog hs ks k44_37 k44_37_bef 1 ⟨44, r⟩) := dR (by kernel_rfl)
theorem k44_37_1 : Qd Tryz.prog hs ks k44_37 k44_37_bef 1 ⟨44, r⟩ dn s = stepD s (some 44) 1 k44_37_bef dn (val (binV Tryz.prog .gtr 3 false true (s.regs.get undefV 43) (.int .i64 (0)))) (Qd Tryz.prog hs ks k44_37 k44_37_bef 2 ⟨44, r⟩) := dR (by kernel_rfl)
theorem k44_37_2 : Qd Tryz.prog hs ks k44_37 k44_37_bef 2 ⟨44, r⟩ dn s = stepD s (some 45) 2 k44_37_bef dn (some { v := (s.regs.get undefV 44) }) (Qd Tryz.prog hs ks k44_37 k44_37_bef 3 ⟨44, r⟩) := dR (by kernel_rfl)
theorem k44_37_3 : Qd Tryz.prog hs ks k44_37 k44_37_bef 3 ⟨44, r⟩ dn s = if wantB (s.regs.get undefV 45) true = true then stepD s (some 46) 3 k44_37_bef dn (val (addrAdd (s.regs.get undefV 1) 1)) (Qd Tryz.prog hs ks k44_37 k44_37_bef 4 ⟨44, r⟩) else Qd Tryz.prog hs ks k44_37 k44_37_bef 4 ⟨44, r⟩ dn (skipS s (some 46)) := dI (by kernel_rfl)
theorem k44_37_4 : Qd Tryz.prog hs ks k44_37 k44_37_bef 4 ⟨44, r⟩ dn s = if wantB (s.regs.get undefV 45) true = true then stepD s (some 47) 4 k44_37_bef dn (xLoad Tryz.prog 35 s.h.get (s.regs.get undefV 46)) (Qd Tryz.prog hs ks k44_37 k44_37_bef 5 ⟨44, r⟩) else Qd Tryz.prog hs ks k44_37 k44_37_bef 5 ⟨44, r⟩ dn (skipS s (some 47)) := dI (by kernel_rfl)
theorem k44_37_5 : Qd Tryz.prog hs ks k44_37 k44_37_bef 5 ⟨44, r⟩ dn s = if wantB (s.regs.get undefV 45) true = true then stepD s (some 48) 5 k44_37_bef dn (some { v := (s.regs.get undefV 3) }) (Qd Tryz.prog hs ks k44_37 k44_37_bef 6 ⟨44, r⟩) else Qd Tryz.prog hs ks k44_37 k44_37_bef 6 ⟨44, r⟩ dn (skipS s (some 48)) := dI (by kernel_rfl)
theorem k44_37_6 : Qd Tryz.prog hs ks k44_37 k44_37_bef 6 ⟨44, r⟩ dn s = if wantB (s.regs.get undefV 45) true = true then stepD s (some 49) 6 k44_37_bef dn (val (binV Tryz.prog .sub 3 false true (s.regs.get undefV 48) (.int .i64 (1)))) (Qd Tryz.prog hs ks k44_37 k44_37_bef 7 ⟨44, r⟩) else Qd Tryz.prog hs ks k44_37 k44_37_bef 7 ⟨44, r⟩ dn (skipS s (some 49)) := dI (by kernel_rfl)
theorem k44_37_7 : Qd Tryz.prog hs ks k44_37 k44_37_bef 7 ⟨44, r⟩ dn s = if wantB (s.regs.get undefV 45) true = true then stepD s (some 50) 7 k44_37_bef dn (val (indexAddr Tryz.prog 35 (s.regs.get undefV 47) (s.regs.get undefV 49))) (Qd Tryz.prog hs ks k44_37 k44_37_bef 8 ⟨44, r⟩) else Qd Tryz.prog hs ks k44_37 k44_37_bef 8 ⟨44, r⟩ dn (skipS s (some 50)) := dI (by kernel_rfl)
theorem k44_37_8 : Qd Tryz.prog hs ks k44_37 k44_37_bef 8 ⟨44, r⟩ dn s = if wantB (s.regs.get undefV 45) true = true then stepD s (some 51) 8 k44_37_bef dn (val (addrAdd (s.regs.get undefV 50) 0)) (Qd Tryz.prog hs ks k44_37 k44_37_bef 9 ⟨44, r⟩) else Qd Tryz.prog hs ks k44_37 k44_37_bef 9 ⟨44, r⟩ dn (skipS s (some 51)) := dI (by kernel_rfl)
theorem k44_37_9 : Qd Tryz.prog hs ks k44_37 k44_37_bef 9 ⟨44, r⟩ dn s = if wantB (s.regs.get undefV 45) true = true then stepD s (some 52) 9 k44_37_bef dn (xLoad Tryz.prog 3 s.h.get (s.regs.get undefV 51)) (Qd Tryz.prog hs ks k44_37 k44_37_bef 10 ⟨44, r⟩) else Qd Tryz.prog hs ks k44_37 k44_37_bef 10 ⟨44, r⟩ dn (skipS s (some 52)) := dI (by kernel_rfl)
theorem k44_37_10 : Qd Tryz.prog hs ks k44_37 k44_37_bef 10 ⟨44, r⟩ dn s = if wantB (s.regs.get undefV 45) true = true then stepD s (some 53) 10 k44_37_bef dn (val (addrAdd (s.regs.get undefV 4) 0)) (Qd Tryz.prog hs ks k44_37 k44_37_bef 11 ⟨44, r⟩) else Qd Tryz.prog hs ks k44_37 k44_37_bef 11 ⟨44, r⟩ dn (skipS s (some 53)) := dI (by kernel_rfl)
theorem k44_37_11 : Qd Tryz.prog hs ks k44_37 k44_37_bef 11 ⟨44, r⟩ dn s = if wantB (s.regs.get undefV 45) true = true then stepD s (some 54) 11 k44_37_bef dn (xLoad Tryz.prog 3 s.h.get (s.regs.get undefV 53)) (Qd Tryz.prog hs ks k44_37 k44_37_bef 12 ⟨44, r⟩) else Qd Tryz.prog hs ks k44_37 k44_37_bef 12 ⟨44, r⟩ dn (skipS s (some 54)) := dI (by kernel_rfl)
theorem k44_37_12 : Qd Tryz.prog hs ks k44_37 k44_37_bef 12 ⟨44, r⟩ dn s = if wantB (s.regs.get undefV 45) true = true then stepD s (some 55) 12 k44_37_bef dn (val (binV Tryz.prog .geq 3 false false (s.regs.get undefV 52) (s.regs.get undefV 54))) (Qd Tryz.prog hs ks k44_37 k44_37_bef 13 ⟨44, r⟩) else Qd Tryz.prog hs ks k44_37 k44_37_bef 13 ⟨44, r⟩ dn (skipS s (some 55)) := dI (by kernel_rfl)
theorem k44_37_13 : Qd Tryz.prog hs ks k44_37 k44_37_bef 13 ⟨44, r⟩ dn s = stepD s (some 56) 13 k44_37_bef dn (xPick (s.regs.get undefV 45) (s.regs.get undefV 55) (.bool false)) (Qd Tryz.prog hs ks k44_37 k44_37_bef 14 ⟨44, r⟩) := dR (by kernel_rfl)
theorem k44_37_14 : Qd Tryz.prog hs ks k44_37 k44_37_bef 14 ⟨44, r⟩ dn s = some [(.normal, s)] := Qd_end (by kernel_rfl) dn s
noncomputable def k44_39 : Code := codeA k44_38
noncomputable def k44_40 : Code := codeB k44_38
theorem k44_38_c : Qc Tryz.prog hs ks ⟨44, r⟩ k44_38 s = condV (s.regs.get undefV 56) (Qc Tryz.prog hs ks ⟨44, r⟩ k44_39) (Qc Tryz.prog hs ks ⟨44, r⟩ k44_40) s := Qc_cond (t := 56) (a := k44_39) (b := k44_40) (by kernel_rfl) _ _
noncomputable def k44_41 : Code := codeA k44_39
noncomputable def k44_42 : Code := codeB k44_39
theorem k44_39_c : Qc Tryz.prog hs ks ⟨44, r⟩ k44_39 s = thenV (Qc Tryz.prog hs ks ⟨44, r⟩ k44_41 s) (Qc Tryz.prog hs ks ⟨44, r⟩ k44_42) := Qc_seq (a := k44_41) (b := k44_42) (by kernel_rfl) _ _
theorem k44_41_c : Qc Tryz.prog hs ks ⟨44, r⟩ k44_41 s = Qo Tryz.prog hs ks k44_41 0 ⟨44, r⟩ s := Qc_region (id := 10) (ops := regOps k44_41) (by kernel_rfl) (by kernel_rfl) s
theorem k44_41_0 : Qo Tryz.prog hs ks k44_41 0 ⟨44, r⟩ s = stepV s (some 2) (some { v := (.bool false) }) (Qo Tryz.prog hs ks k44_41 1 ⟨44, r⟩) := oR (by kernel_rfl)
theorem k44_41_1 : Qo Tryz.prog hs ks k44_41 1 ⟨44, r⟩ s = some [(.normal, s)] := Qo_end (by kernel_rfl) s
theorem k44_42_c : Qc Tryz.prog hs ks ⟨44, r⟩ k44_42 s = some [(.ret, s)] := Qc_ret (by kernel_rfl) _ _
theorem k44_40_c : Qc Tryz.prog hs ks ⟨44, r⟩ k44_40 s = some [(.normal, s)] := Qc_skip (by kernel_rfl) _ _
noncomputable def k44_43 : Code := codeA k44_36
noncomputable def k44_44 : Code := codeB k44_36
theorem k44_36_c : Qc Tryz.prog hs ks ⟨44, r⟩ k44_36 s = thenV (Qc Tryz.prog hs ks ⟨44, r⟩ k44_43 s) (Qc Tryz.prog hs ks ⟨44, r⟩ k44_44) := Qc_seq (a := k44_43) (b := k44_44) (by kernel_rfl) _ _
theorem k44_43_c : Qc Tryz.prog hs ks ⟨44, r⟩ k44_43 s = Qo Tryz.prog hs ks k44_43 0 ⟨44, r⟩ s := Qc_region (id := 11) (ops := regOps k44_43) (by kernel_rfl) (by kernel_rfl) s
theorem k44_43_0 : Qo Tryz.prog hs ks k44_43 0 ⟨44, r⟩ s = stepV s (some 57) (val (addrAdd (s.regs.get undefV 1) 0)) (Qo Tryz.prog hs ks k44_43 1 ⟨44, r⟩) := oR (by kernel_rfl)
theorem k44_43_1 : Qo Tryz.prog hs ks k44_43 1 ⟨44, r⟩ s = stepV s (some 58) (xLoad Tryz.prog 3 s.h.get (s.regs.get undefV 57)) (Qo Tryz.prog hs ks k44_43 2 ⟨44, r⟩) := oR (by kernel_rfl)
theorem k44_43_2 : Qo Tryz.prog hs ks k44_43 2 ⟨44, r⟩ s = stepV s (some 59) (val (binV Tryz.prog .gtr 3 false true (s.regs.get undefV 58) (.int .i64 (0)))) (Qo Tryz.prog hs ks k44_43 3 ⟨44, r⟩) := oR (by kernel_rfl)
theorem k44_43_3 : Qo Tryz.prog hs ks k44_43 3 ⟨44, r⟩ s = stepV s (some 60) (some { v := (s.regs.get undefV 59) }) (Qo Tryz.prog hs ks k44_43 4 ⟨44, r⟩) := oR (by kernel_rfl)
theorem k44_43_4 : Qo Tryz.prog hs ks k44_43 4 ⟨44, r⟩ s = if wantB (s.regs.get undefV 60) true = true then stepV s (some 61) (val (addrAdd (s.regs.get undefV 4) 1)) (Qo Tryz.prog hs ks k44_43 5 ⟨44, r⟩) else Qo Tryz.prog hs ks k44_43 5 ⟨44, r⟩ (skipS s (some 61)) := oI (by kernel_rfl)
theorem k44_43_5 : Qo Tryz.prog hs ks k44_43 5 ⟨44, r⟩ s = if wantB (s.regs.get undefV 60) true = true then stepV s (some 62) (xLoad Tryz.prog 3 s.h.get (s.regs.get undefV 61)) (Qo Tryz.prog hs ks k44_43 6 ⟨44, r⟩) else Qo Tryz.prog hs ks k44_43 6 ⟨44, r⟩ (skipS s (some 62)) := oI (by kernel_rfl)
theorem k44_43_6 : Qo Tryz.prog hs ks k44_43 6 ⟨44, r⟩ s = if wantB (s.regs.get undefV 60) true = true then stepV s (some 63) (val (addrAdd (s.regs.get undefV 1) 0)) (Qo Tryz.prog hs ks k44_43 7 ⟨44, r⟩) else Qo Tryz.prog hs ks k44_43 7 ⟨44, r⟩ (skipS s (some 63)) := oI (by kernel_rfl)
theorem k44_43_7 : Qo Tryz.prog hs ks k44_43 7 ⟨44, r⟩ s = if wantB (s.regs.get undefV 60) true = true then stepV s (some 64) (xLoad Tryz.prog 3 s.h.get (s.regs.get undefV 63)) (Qo Tryz.prog hs ks k44_43 8 ⟨44, r⟩) else Qo Tryz.prog hs ks k44_43 8 ⟨44, r⟩ (skipS s (some 64)) := oI (by kernel_rfl)
theorem k44_43_8 : Qo Tryz.prog hs ks k44_43 8 ⟨44, r⟩ s = if wantB (s.regs.get undefV 60) true = true then stepV s (some 65) (val (binV Tryz.prog .geq 3 false false (s.regs.get undefV 62) (s.regs.get undefV 64))) (Qo Tryz.prog hs ks k44_43 9 ⟨44, r⟩) else Qo Tryz.prog hs ks k44_43 9 ⟨44, r⟩ (skipS s (some 65)) := oI (by kernel_rfl)
theorem k44_43_9 : Qo Tryz.prog hs ks k44_43 9 ⟨44, r⟩ s = stepV s (some 66) (xPick (s.regs.get undefV 60) (s.regs.get undefV 65) (.bool false)) (Qo Tryz.prog hs ks k44_43 10 ⟨44, r⟩) := oR (by kernel_rfl)
theorem k44_43_10 : Qo Tryz.prog hs ks k44_43 10 ⟨44, r⟩ s = some [(.normal, s)] := Qo_end (by kernel_rfl) s
noncomputable def k44_45 : Code := codeA k44_44
noncomputable def k44_46 : Code := codeB k44_44
theorem k44_44_c : Qc Tryz.prog hs ks ⟨44, r⟩ k44_44 s = condV (s.regs.get undefV 66) (Qc Tryz.prog hs ks ⟨44, r⟩ k44_45) (Qc Tryz.prog hs ks ⟨44, r⟩ k44_46) s := Qc_cond (t := 66) (a := k44_45) (b := k44_46) (by kernel_rfl) _ _
noncomputable def k44_47 : Code := codeA k44_45
noncomputable def k44_48 : Code := codeB k44_45
theorem k44_45_c : Qc Tryz.prog hs ks ⟨44, r⟩ k44_45 s = thenV (Qc Tryz.prog hs ks ⟨44, r⟩ k44_47 s) (Qc Tryz.prog hs ks ⟨44, r⟩ k44_48) := Qc_seq (a := k44_47) (b := k44_48) (by kernel_rfl) _ _
theorem k44_47_c : Qc Tryz.prog hs ks ⟨44, r⟩ k44_47 s = Qo Tryz.prog hs ks k44_47 0 ⟨44, r⟩ s := Qc_region (id := 12) (ops := regOps k44_47) (by kernel_rfl) (by kernel_rfl) s
theorem k44_47_0 : Qo Tryz.prog hs ks k44_47 0 ⟨44, r⟩ s = stepV s (some 2) (some { v := (.bool false) }) (Qo Tryz.prog hs ks k44_47 1 ⟨44, r⟩) := oR (by kernel_rfl)
theorem k44_47_1 : Qo Tryz.prog hs ks k44_47 1 ⟨44, r⟩ s = some [(.normal, s)] := Qo_end (by kernel_rfl) s
theorem k44_48_c : Qc Tryz.prog hs ks ⟨44, r⟩ k44_48 s = some [(.ret, s)] := Qc_ret (by kernel_rfl) _ _
theorem k44_46_c : Qc Tryz.prog hs ks ⟨44, r⟩ k44_46 s = some [(.normal, s)] := Qc_skip (by kernel_rfl) _ _
theorem k44_23_c : Qc Tryz.prog hs ks ⟨44, r⟩ k44_23 s = Qo Tryz.prog hs ks k44_23 0 ⟨44, r⟩ s := Qc_region (id := 5) (ops := regOps k44_23) (by kernel_rfl) (by kernel_rfl) s
theorem k44_23_0 : Qo Tryz.prog hs ks k44_23 0 ⟨44, r⟩ s = stepV s (some 18) (some { v := (s.regs.get undefV 3) }) (Qo Tryz.prog hs ks k44_23 1 ⟨44, r⟩) := oR (by kernel_rfl)
theorem k44_23_1 : Qo Tryz.prog hs ks k44_23 1 ⟨44, r⟩ s = stepV s (some 19) (val (binV Tryz.prog .add 3 false true (s.regs.get undefV 18) (.int .i64 (1)))) (Qo Tryz.prog hs ks k44_23 2 ⟨44, r⟩) := oR (by kernel_rfl)
theorem k44_23_2 : Qo Tryz.prog hs ks k44_23 2 ⟨44, r⟩ s = stepV s (some 3) (some { v := (s.regs.get undefV 19) }) (Qo Tryz.prog hs ks k44_23 3 ⟨44, r⟩) := oR (by kernel_rfl)
theorem k44_23_3 : Qo Tryz.prog hs ks k44_23 3 ⟨44, r⟩ s = some [(.normal, s)] := Qo_end (by kernel_rfl) s
noncomputable def k44_49 : Code := codeA k44_11
noncomputable def k44_50 : Code := codeB k44_11
theorem k44_11_c : Qc Tryz.prog hs ks ⟨44, r⟩ k44_11 s = thenV (Qc Tryz.prog hs ks ⟨44, r⟩ k44_49 s) (Qc Tryz.prog hs ks ⟨44, r⟩ k44_50) := Qc_seq (a := k44_49) (b := k44_50) (by kernel_rfl) _ _
theorem k44_49_c : Qc Tryz.prog hs ks ⟨44, r⟩ k44_49 s = Qo Tryz.prog hs ks k44_49 0 ⟨44, r⟩ s := Qc_region (id := 13) (ops := regOps k44_49) (by kernel_rfl) (by kernel_rfl) s
theorem k44_49_0 : Qo Tryz.prog hs ks k44_49 0 ⟨44, r⟩ s = stepV s (some 2) (some { v := (.bool true) }) (Qo Tryz.prog hs ks k44_49 1 ⟨44, r⟩) := oR (by kernel_rfl)
theorem k44_49_1 : Qo Tryz.prog hs ks k44_49 1 ⟨44, r⟩ s = some [(.normal, s)] := Qo_end (by kernel_rfl) s
theorem k44_50_c : Qc Tryz.prog hs ks ⟨44, r⟩ k44_50 s = some [(.ret, s)] := Qc_ret (by kernel_rfl) _ _
/-! function 45 -/
noncomputable def k45 : Code := Tryz.f45.body.getD .skip
theorem k45_fun (args : List V) (ha : args.length ≤ 138) (h : H) : (EV Tryz.prog hs ks).call 45 args h = endsV Tryz.prog hs ks Tryz.f45 (Qc Tryz.prog hs ks ⟨45, none⟩ k45 (S 138 (setF args 0 fun _ => undefV) [] h)) := EV_fun Tryz.func45 (by kernel_rfl) (by kernel_rfl) (by decide) ha h
theorem k45_ret (f : Nat → V) (h : H) : endsV Tryz.prog hs ks Tryz.f45 (some [(.ret, S 138 f [] h)]) = resV (resultVs Tryz.prog (S 138 f [] h) [.cell 4 37]) h := ends_one (by kernel_rfl) (Or.inl rfl) _ _
theorem k45_nrm (f : Nat → V) (h : H) : endsV Tryz.prog hs ks Tryz.f45 (some [(.normal, S 138 f [] h)]) = resV (resultVs Tryz.prog (S 138 f [] h) [.cell 4 37]) h := ends_one (by kernel_rfl) (Or.inr rfl) _ _
noncomputable def k45_0 : Code := codeA k45
noncomputable def k45_1 : Code := codeB k45
theorem k45_c : Qc Tryz.prog hs ks ⟨45, r⟩ k45 s = thenV (Qc Tryz.prog hs ks ⟨45, r⟩ k45_0 s) (Qc Tryz.prog hs ks ⟨45, r⟩ k45_1) := Qc_seq (a := k45_0) (b := k45_1) (by kernel_rfl) _ _
theorem k45_0_c : Qc Tryz.prog hs ks ⟨45, r⟩ k45_0 s = Qo Tryz.prog hs ks k45_0 0 ⟨45, r⟩ s := Qc_region (id := 0) (ops := regOps k45_0) (by kernel_rfl) (by kernel_rfl) s
theorem k45_0_0 : Qo Tryz.prog hs ks k45_0 0 ⟨45, r⟩ s = stepV s (some 2) (some { v := .ptr s.h.n 0, nw := [.row 0 (V.cells (s.regs.get undefV 0))] }) (Qo Tryz.prog hs ks k45_0 1 ⟨45, r⟩) := oR (by kernel_rfl)
theorem k45_0_1 : Qo Tryz.prog hs ks k45_0 1 ⟨45, r⟩ s = stepV s (some 3) (some { v := .ptr s.h.n 0, nw := [.row 0 (V.cells (s.regs.get undefV 1))] }) (Qo Tryz.prog hs ks k45_0 2 ⟨45, r⟩) := oR (by kernel_rfl)
theorem k45_0_2 : Qo Tryz.prog hs ks k45_0 2 ⟨45, r⟩ s = stepV s (some 4) (some { v := .ptr s.h.n 0, nw := [.row 0 [.int .i64 (0), .nils]] }) (Qo Tryz.prog hs ks k45_0 3 ⟨45, r⟩) := oR (by kernel_rfl)
theorem k45_0_3 : Qo Tryz.prog hs ks k45_0 3 ⟨45, r⟩ s = some [(.normal, s)] := Qo_end (by kernel_rfl) s
noncomputable def k45_2 : Code := codeA k45_1
noncomputable def k45_3 : Code := codeB k45_1
theorem k45_1_c : Qc Tryz.prog hs ks ⟨45, r⟩ k45_1 s = thenV (Qc Tryz.prog hs ks ⟨45, r⟩ k45_2 s) (Qc Tryz.prog hs ks ⟨45, r⟩ k45_3) := Qc_seq (a := k45_2) (b := k45_3) (by kernel_rfl) _ _
theorem k45_2_c : Qc Tryz.prog hs ks ⟨45, r⟩ k45_2 s = Qo Tryz.prog hs ks k45_2 0 ⟨45, r⟩ s := Qc_region (id := 1) (ops := regOps k45_2) (by kernel_rfl) (by kernel_rfl) s
theorem k45_2_0 : Qo Tryz.prog hs ks k45_2 0 ⟨45, r⟩ s = stepV s (some 10) (val (addrAdd (s.regs.get undefV 2) 0)) (Qo Tryz.prog hs ks k45_2 1 ⟨45, r⟩) := oR (by kernel_rfl)
theorem k45_2_1 : Qo Tryz.prog hs ks k45_2 1 ⟨45, r⟩ s = stepV s (some 11) (xLoad Tryz.prog 3 s.h.get (s.regs.get undefV 10)) (Qo Tryz.prog hs ks k45_2 2 ⟨45, r⟩) := oR (by kernel_rfl)
theorem k45_2_2 : Qo Tryz.prog hs ks k45_2 2 ⟨45, r⟩ s = stepV s (some 12) (val (addrAdd (s.regs.get undefV 3) 0)) (Qo Tryz.prog hs ks k45_2 3 ⟨45, r⟩) := oR (by kernel_rfl)
theorem k45_2_3 : Qo Tryz.prog hs ks k45_2 3 ⟨45, r⟩ s = stepV s (some 13) (xLoad Tryz.prog 3 s.h.get (s.regs.get undefV 12)) (Qo Tryz.prog hs ks k45_2 4 ⟨45, r⟩) := oR (by kernel_rfl)
theorem k45_2_4 : Qo Tryz.prog hs ks k45_2 4 ⟨45, r⟩ s = stepV s (some 14) (builtinV Tryz.prog false s.h.get s.h.n .max [3, 3] [(s.regs.get undefV 11), (s.regs.get undefV 13)]) (Qo Tryz.prog hs ks k45_2 5 ⟨45, r⟩) := oR (by kernel_rfl)
theorem k45_2_5 : Qo Tryz.prog hs ks k45_2 5 ⟨45, r⟩ s = stepV s (some 15) (val (build Tryz.prog 37 [(0, (s.regs.get undefV 14))])) (Qo Tryz.prog hs ks k45_2 6 ⟨45, r⟩) := oR (by kernel_rfl)
theorem k45_2_6 : Qo Tryz.prog hs ks k45_2 6 ⟨45, r⟩ s = stepV s (some 5) (some { v := .ptr s.h.n 0, nw := [.row 0 [.int .i64 (0), .nils]] }) (Qo Tryz.prog hs ks k45_2 7 ⟨45, r⟩) := oR (by kernel_rfl)
theorem k45_2_7 : Qo Tryz.prog hs ks k45_2 7 ⟨45, r⟩ s = stepV s none (xStore Tryz.prog 37 s.h.get (s.regs.get undefV 5) (s.regs.get undefV 15)) (Qo Tryz.prog hs ks k45_2 8 ⟨45, r⟩) := oR (by kernel_rfl)
theorem k45_2_8 : Qo Tryz.prog hs ks k45_2 8 ⟨45, r⟩ s = some [(.normal, s)] := Qo_end (by kernel_rfl) s
noncomputable def k45_4 : Code := codeA k45_3
noncomputable def k45_5 : Code := codeB k45_3
theorem k45_3_c : Qc Tryz.prog hs ks ⟨45, r⟩ k45_3 s = thenV (Qc Tryz.prog hs ks ⟨45, r⟩ k45_4 s) (Qc Tryz.prog hs ks ⟨45, r⟩ k45_5) := Qc_seq (a := k45_4) (b := k45_5) (by kernel_rfl) _ _
theorem k45_4_c : Qc Tryz.prog hs ks ⟨45, r⟩ k45_4 s = Qo Tryz.prog hs ks k45_4 0 ⟨45, r⟩ s := Qc_region (id := 2) (ops := regOps k45_4) (by kernel_rfl) (by kernel_rfl) s
theorem k45_4_0 : Qo Tryz.prog hs ks k45_4 0 ⟨45, r⟩ s = stepV s (some 6) (some { v := (.int .i64 (0)) }) (Qo Tryz.prog hs ks k45_4 1 ⟨45, r⟩) := oR (by kernel_rfl)
theorem k45_4_1 : Qo Tryz.prog hs ks k45_4 1 ⟨45, r⟩ s = stepV s (some 7) (some { v := (.int .i64 (0)) }) (Qo Tryz.prog hs ks k45_4 2 ⟨45, r⟩) := oR (by kernel_rfl)
theorem k45_4_2 : Qo Tryz.prog hs ks k45_4 2 ⟨45, r⟩ s = some [(.normal, s)] := Qo_end (by kernel_rfl) s
noncomputable def k45_6 : Code := codeA k45_5
noncomputable def k45_7 : Code := codeB k45_5
theorem k45_5_c : Qc Tryz.prog hs ks ⟨45, r⟩ k45_5 s = thenV (Qc Tryz.prog hs ks ⟨45, r⟩ k45_6 s) (Qc Tryz.prog hs ks ⟨45, r⟩ k45_7) := Qc_seq (a := k45_6) (b := k45_7) (by kernel_rfl) _ _
theorem k45_6_c : Qc Tryz.prog hs ks ⟨45, r⟩ k45_6 s = Qo Tryz.prog hs ks k45_6 0 ⟨45, r⟩ s := Qc_region (id := 3) (ops := regOps k45_6) (by kernel_rfl) (by kernel_rfl) s
theorem k45_6_0 : Qo Tryz.prog hs ks k45_6 0 ⟨45, r⟩ s = stepV s (some 8) (some { v := (.int .i64 (0)) }) (Qo Tryz.prog hs ks k45_6 1 ⟨45, r⟩) := oR (by kernel_rfl)
theorem k45_6_1 : Qo Tryz.prog hs ks k45_6 1 ⟨45, r⟩ s = some [(.normal, s)] := Qo_end (by kernel_rfl) s
noncomputable def k45_8 : Code := codeA k45_7
noncomputable def k45_9 : Code := codeB k45_7
theorem k45_7_c : Qc Tryz.prog hs ks ⟨45, r⟩ k45_7 s = thenV (Qc Tryz.prog hs ks ⟨45, r⟩ k45_8 s) (Qc Tryz.prog hs ks ⟨45, r⟩ k45_9) := Qc_seq (a := k45_8) (b := k45_9) (by kernel_rfl) _ _
noncomputable def k45_10 : Code := codeA k45_8
theorem k45_8_c : Qc Tryz.prog hs ks ⟨45, r⟩ k45_8 s = blockV 0 (Qc Tryz.prog hs ks ⟨45, r⟩ k45_10 s) := Qc_block (b := k45_10) (by kernel_rfl) _ _
noncomputable def k45_11 : Code := codeA k45_10
theorem k45_10_l : Qc Tryz.prog hs ks ⟨45, r⟩ k45_10 s = thenV (Qc Tryz.prog hs ks ⟨45, r⟩ k45_11 s) (Qc Tryz.prog hs ks ⟨45, r⟩ k45_10) := Qc_loop (b := k45_11) (by kernel_rfl) _ _
noncomputable def k45_12 : Code := codeA k45_11
noncomputable def k45_13 : Code := codeB k45_11
theorem k45_11_c : Qc Tryz.prog hs ks ⟨45, r⟩ k45_11 s = thenV (Qc Tryz.prog hs ks ⟨45, r⟩ k45_12 s) (Qc Tryz.prog hs ks ⟨45, r⟩ k45_13) := Qc_seq (a := k45_12) (b := k45_13) (by kernel_rfl) _ _
noncomputable def k45_14 : Code := codeA k45_12
noncomputable def k45_15 : Code := codeB k45_12
theorem k45_12_c : Qc Tryz.prog hs ks ⟨45, r⟩ k45_12 s = thenV (Qc Tryz.prog hs ks ⟨45, r⟩ k45_14 s) (Qc Tryz.prog hs ks ⟨45, r⟩ k45_15) := Qc_seq (a := k45_14) (b := k45_15) (by kernel_rfl) _ _
theorem k45_14_c : Qc Tryz.prog hs ks ⟨45, r⟩ k45_14 s = Qo Tryz.prog hs ks k45_14 0 ⟨45, r⟩ s := Qc_region (id := 4) (ops := regOps k45_14) (by kernel_rfl) (by kernel_rfl) s
theorem k45_14_0 : Qo Tryz.prog hs ks k45_14 0 ⟨45, r⟩ s = stepV s (some 16) (some { v := (s.regs.get undefV 6) }) (Qo Tryz.prog hs ks k45_14 1 ⟨45, r⟩) := oR (by kernel_rfl)
theorem k45_14_1 : Qo Tryz.prog hs ks k45_14 1 ⟨45, r⟩ s = stepV s (some 17) (val (addrAdd (s.regs.get undefV 2) 1)) (Qo Tryz.prog hs ks k45_14 2 ⟨45, r⟩) := oR (by kernel_rfl)
theorem k45_14_2 : Qo Tryz.prog hs ks k45_14 2 ⟨45, r⟩ s = stepV s (some 18) (xLoad Tryz.prog 35 s.h.get (s.regs.get undefV 17)) (Qo Tryz.prog hs ks k45_14 3 ⟨45, r⟩) := oR (by kernel_rfl)
theorem k45_14_3 : Qo Tryz.prog hs ks k45_14 3 ⟨45, r⟩ s = stepV s (some 19) (builtinV Tryz.prog false s.h.get s.h.n .len [35] [(s.regs.get undefV 18)]) (Qo Tryz.prog hs ks k45_14 4 ⟨45, r⟩) := oR (by kernel_rfl)
theorem k45_14_4 : Qo Tryz.prog hs ks k45_14 4 ⟨45, r⟩ s = stepV s (some 20) (val (binV Tryz.prog .lss 3 false false (s.regs.get undefV 16) (s.regs.get undefV 19))) (Qo Tryz.prog hs ks k45_14 5 ⟨45, r⟩) := oR (by kernel_rfl)
theorem k45_14_5 : Qo Tryz.prog hs ks k45_14 5 ⟨45, r⟩ s = stepV s (some 21) (some { v := (s.regs.get undefV 20) }) (Qo Tryz.prog hs ks k45_14 6 ⟨45, r⟩) := oR (by kernel_rfl)
theorem k45_14_6 : Qo Tryz.prog hs ks k45_14 6 ⟨45, r⟩ s = if wantB (s.regs.get undefV 21) false = true then stepV s (some 22) (some { v := (s.regs.get undefV 7) }) (Qo Tryz.prog hs ks k45_14 7 ⟨45, r⟩) else Qo Tryz.prog hs ks k45_14 7 ⟨45, r⟩ (skipS s (some 22)) := oI (by kernel_rfl)
theorem k45_14_7 : Qo Tryz.prog hs ks k45_14 7 ⟨45, r⟩ s = if wantB (s.regs.get undefV 21) false = true then stepV s (some 23) (val (addrAdd (s.regs.get undefV 3) 1)) (Qo Tryz.prog hs ks k45_14 8 ⟨45, r⟩) else Qo Tryz.prog hs ks k45_14 8 ⟨45, r⟩ (skipS s (some 23)) := oI (by kernel_rfl)
theorem k45_14_8 : Qo Tryz.prog hs ks k45_14 8 ⟨45, r⟩ s = if wantB (s.regs.get undefV 21) false = true then stepV s (some 24) (xLoad Tryz.prog 35 s.h.get (s.regs.get undefV 23)) (Qo Tryz.prog hs ks k45_14 9 ⟨45, r⟩) else Qo Tryz.prog hs ks k45_14 9 ⟨45, r⟩ (skipS s (some 24)) := oI (by kernel_rfl)
theorem k45_14_9 : Qo Tryz.prog hs ks k45_14 9 ⟨45, r⟩ s = if wantB (s.regs.get undefV 21) false = true then stepV s (some 25) (builtinV Tryz.prog false s.h.get s.h.n .len [35] [(s.regs.get undefV 24)]) (Qo Tryz.prog hs ks k45_14 10 ⟨45, r⟩) else Qo Tryz.prog hs ks k45_14 10 ⟨45, r⟩ (skipS s (some 25)) := oI (by kernel_rfl)
theorem k45_14_10 : Qo Tryz.prog hs ks k45_14 10 ⟨45, r⟩ s = if wantB (s.regs.get undefV 21) false = true then stepV s (some 26) (val (binV Tryz.prog .lss 3 false false (s.regs.get undefV 22) (s.regs.get undefV 25))) (Qo Tryz.prog hs ks k45_14 11 ⟨45, r⟩) else Qo Tryz.prog hs ks k45_14 11 ⟨45, r⟩ (skipS s (some 26)) := oI (by kernel_rfl)
theorem k45_14_11 : Qo Tryz.prog hs ks k45_14 11 ⟨45, r⟩ s = stepV s (some 27) (xPick (s.regs.get undefV 21) (.bool true) (s.regs.get undefV 26)) (Qo Tryz.prog hs ks k45_14 12 ⟨45, r⟩) := oR (by kernel_rfl)
theorem k45_14_12 : Qo Tryz.prog hs ks k45_14 12 ⟨45, r⟩ s = some [(.normal, s)] := Qo_end (by kernel_rfl) s
noncomputable def k45_16 : Code := codeA k45_15
noncomputable def k45_17 : Code := codeB k45_15
theorem k45_15_c : Qc Tryz.prog hs ks ⟨45, r⟩ k45_15 s = condV (s.regs.get undefV 27) (Qc Tryz.prog hs ks ⟨45, r⟩ k45_16) (Qc Tryz.prog hs ks ⟨45, r⟩ k45_17) s := Qc_cond (t := 27) (a := k45_16) (b := k45_17) (by kernel_rfl) _ _
theorem k45_16_c : Qc Tryz.prog hs ks ⟨45, r⟩ k45_16 s = some [(.normal, s)] := Qc_skip (by kernel_rfl) _ _
theorem k45_17_c : Qc Tryz.prog hs ks ⟨45, r⟩ k45_17 s = some [(.exit 0, s)] := Qc_exit (by kernel_rfl) _ _
noncomputable def k45_18 : Code := codeA k45_13
theorem k45_13_c : Qc Tryz.prog hs ks ⟨45, r⟩ k45_13 s = blockV 1 (Qc Tryz.prog hs ks ⟨45, r⟩ k45_18 s) := Qc_block (b := k45_18) (by kernel_rfl) _ _
noncomputable def k45_19 : Code := codeA k45_18
noncomputable def k45_20 : Code := codeB k45_18
theorem k45_18_c : Qc Tryz.prog hs ks ⟨45, r⟩ k45_18 s = thenV (Qc Tryz.prog hs ks ⟨45, r⟩ k45_19 s) (Qc Tryz.prog hs ks ⟨45, r⟩ k45_20) := Qc_seq (a := k45_19) (b := k45_20) (by kernel_rfl) _ _
theorem k45_19_c : Qc Tryz.prog hs ks ⟨45, r⟩ k45_19 s = Qo Tryz.prog hs ks k45_19 0 ⟨45, r⟩ s := Qc_region (id := 5) (ops := regOps k45_19) (by kernel_rfl) (by kernel_rfl) s
theorem k45_19_0 : Qo Tryz.prog hs ks k45_19 0 ⟨45, r⟩ s = stepV s (some 28) (val (build Tryz.prog 74 [])) (Qo Tryz.prog hs ks k45_19 1 ⟨45, r⟩) := oR (by kernel_rfl)
theorem k45_19_1 : Qo Tryz.prog hs ks k45_19 1 ⟨45, r⟩ s = stepV s (some 9) (some { v := .ptr s.h.n 0, nw := [.row 0 [.int .i64 (0), .int .i64 (0)]] }) (Qo Tryz.prog hs ks k45_19 2 ⟨45, r⟩) := oR (by kernel_rfl)
theorem k45_19_2 : Qo Tryz.prog hs ks k45_19 2 ⟨45, r⟩ s = stepV s none (xStore Tryz.prog 74 s.h.get (s.regs.get undefV 9) (s.regs.get undefV 28)) (Qo Tryz.prog hs ks k45_19 3 ⟨45, r⟩) := oR (by kernel_rfl)
theorem k45_19_3 : Qo Tryz.prog hs ks k45_19 3 ⟨45, r⟩ s = some [(.normal, s)] := Qo_end (by kernel_rfl) s
noncomputable def k45_21 : Code := codeA k45_20
noncomputable def k45_22 : Code := codeB k45_20
theorem k45_20_c : Qc Tryz.prog hs ks ⟨45, r⟩ k45_20 s = thenV (Qc Tryz.prog hs ks ⟨45, r⟩ k45_21 s) (Qc Tryz.prog hs ks ⟨45, r⟩ k45_22) := Qc_seq (a := k45_21) (b := k45_22) (by kernel_rfl) _ _
noncomputable def k45_23 : Code := codeA k45_21
theorem k45_21_c : Qc Tryz.prog hs ks ⟨45, r⟩ k45_21 s = blockV 2 (Qc Tryz.prog hs ks ⟨45, r⟩ k45_23 s) := Qc_block (b := k45_23) (by kernel_rfl) _ _
noncomputable def k45_24 : Code := codeA k45_23
noncomputable def k45_25 : Code := codeB k45_23
theorem k45_23_c : Qc Tryz.prog hs ks ⟨45, r⟩ k45_23 s = thenV (Qc Tryz.prog hs ks ⟨45, r⟩ k45_24 s) (Qc Tryz.prog hs ks ⟨45, r⟩ k45_25) := Qc_seq (a := k45_24) (b := k45_25) (by kernel_rfl) _ _
noncomputable def k45_24_bef : List Nat := [0, 0, 2, 6, 15, 31, 63, 63, 191, 447, 1023, 2047, 4095, 8191, 4095, 32767, 65535, 131071, 4095, 266239, 4095, 1839103, 3936255, 8130559, 16777215, 33554431, 67108863, 134217727]
theorem k45_24_c : Qc Tryz.prog hs ks ⟨45, r⟩ k45_24 s = Qd Tryz.prog hs ks k45_24 k45_24_bef 0 ⟨45, r⟩ [] s := Qc_draw (id := 9) (ops := regOps k45_24) (by kernel_rfl) (by kernel_rfl) (by kernel_rfl) (by kernel_rfl) s
theorem k45_24_0 : Qd Tryz.prog hs ks k45_24 k45_24_bef 0 ⟨45, r⟩ dn s = stepD s (some 54) 0 k45_24_bef dn (some { v := (s.regs.get undefV 7) }) (Qd Tryz.prog hs ks k45_24 k45_24_bef 1 ⟨45, r⟩) := dR (by kernel_rfl)
theorem k45_24_1 : Qd Tryz.prog hs ks k45_24 k45_24_bef 1 ⟨45, r⟩ dn s = stepD s (some 55) 1 k45_24_bef dn (val (addrAdd (s.regs.get undefV 3) 1)) (Qd Tryz.prog hs ks k45_24 k45_24_bef 2 ⟨45, r⟩) := dR (by kernel_rfl)
theorem k45_24_2 : Qd Tryz.prog hs ks k45_24 k45_24_bef 2 ⟨45, r⟩ dn s = stepD s (some 56) 2 k45_24_bef dn (xLoad Tryz.prog 35 s.h.get (s.regs.get undefV 55)) (Qd Tryz.prog hs ks k45_24 k45_24_bef 3 ⟨45, r⟩) := dR (by kernel_rfl)
theorem k45_24_3 : Qd Tryz.prog hs ks k45_24 k45_24_bef 3 ⟨45, r⟩ dn s = stepD s (some 57) 3 k45_24_bef dn (builtinV Tryz.prog false s.h.get s.h.n .len [35] [(s.regs.get undefV 56)]) (Qd Tryz.prog hs ks k45_24 k45_24_bef 4 ⟨45, r⟩) := dR (by kernel_rfl)
theorem k45_24_4 : Qd Tryz.prog hs ks k45_24 k45_24_bef 4 ⟨45, r⟩ dn s = stepD s (some 58) 4 k45_24_bef dn (val (binV Tryz.prog .eql 3 false false (s.regs.get undefV 54) (s.regs.get undefV 57))) (Qd Tryz.prog hs ks k45_24 k45_24_bef 5 ⟨45, r⟩) := dR (by kernel_rfl)
theorem k45_24_5 : Qd Tryz.prog hs ks k45_24 k45_24_bef 5 ⟨45, r⟩ dn s = stepD s (some 59) 5 k45_24_bef dn (some { v := (s.regs.get undefV 58) }) (Qd Tryz.prog hs ks k45_24 k45_24_bef 6 ⟨45, r⟩) := dR (by kernel_rfl)
theorem k45_24_6 : Qd Tryz.prog hs ks k45_24 k45_24_bef 6 ⟨45, r⟩ dn s = if wantB (s.regs.get undefV 59) false = true then stepD s (some 60) 6 k45_24_bef dn (some { v := (s.regs.get undefV 6) }) (Qd Tryz.prog hs ks k45_24 k45_24_bef 7 ⟨45, r⟩) else Qd Tryz.prog hs ks k45_24 k45_24_bef 7 ⟨45, r⟩ dn (skipS s (some 60)) := dI (by kernel_rfl)
theorem k45_24_7 : Qd Tryz.prog hs ks k45_24 k45_24_bef 7 ⟨45, r⟩ dn s = if wantB (s.regs.get undefV 59) false = true then stepD s (some 61) 7 k45_24_bef dn (val (addrAdd (s.regs.get undefV 2) 1)) (Qd Tryz.prog hs ks k45_24 k45_24_bef 8 ⟨45, r⟩) else Qd Tryz.prog hs ks k45_24 k45_24_bef 8 ⟨45, r⟩ dn (skipS s (some 61)) := dI (by kernel_rfl)
theorem k45_24_8 : Qd Tryz.prog hs ks k45_24 k45_24_bef 8 ⟨45, r⟩ dn s = if wantB (s.regs.get undefV 59) false = true then stepD s (some 62) 8 k45_24_bef dn (xLoad Tryz.prog 35 s.h.get (s.regs.get undefV 61)) (Qd Tryz.prog hs ks k45_24 k45_24_bef 9 ⟨45, r⟩) else Qd Tryz.prog hs ks k45_24 k45_24_bef 9 ⟨45, r⟩ dn (skipS s (some 62)) := dI (by kernel_rfl)
theorem k45_24_9 : Qd Tryz.prog hs ks k45_24 k45_24_bef 9 ⟨45, r⟩ dn s = if wantB (s.regs.get undefV 59) false = true then stepD s (some 63) 9 k45_24_bef dn (builtinV Tryz.prog false s.h.get s.h.n .len [35] [(s.regs.get undefV 62)]) (Qd Tryz.prog hs ks k45_24 k45_24_bef 10 ⟨45, r⟩) else Qd Tryz.prog hs ks k45_24 k45_24_bef 10 ⟨45, r⟩ dn (skipS s (some 63)) := dI (by kernel_rfl)
theorem k45_24_10 : Qd Tryz.prog hs ks k45_24 k45_24_bef 10 ⟨45, r⟩ dn s = if wantB (s.regs.get undefV 59) false = true then stepD s (some 64) 10 k45_24_bef dn (val (binV Tryz.prog .lss 3 false false (s.regs.get undefV 60) (s.regs.get undefV 63))) (Qd Tryz.prog hs ks k45_24 k45_24_bef 11 ⟨45, r⟩) else Qd Tryz.prog hs ks k45_24 k45_24_bef 11 ⟨45, r⟩ dn (skipS s (some 64)) := dI (by kernel_rfl)
theorem k45_24_11 : Qd Tryz.prog hs ks k45_24 k45_24_bef 11 ⟨45, r⟩ dn s = if wantB (s.regs.get undefV 59) false = true then stepD s (some 65) 11 k45_24_bef dn (some { v := (s.regs.get undefV 64) }) (Qd Tryz.prog hs ks k45_24 k45_24_bef 12 ⟨45, r⟩) else Qd Tryz.prog hs ks k45_24 k45_24_bef 12 ⟨45, r⟩ dn (skipS s (some 65)) := dI (by kernel_rfl)
theorem k45_24_12 : Qd Tryz.prog hs ks k45_24 k45_24_bef 12 ⟨45, r⟩ dn s = if wantB (s.regs.get undefV 65) true = true then stepD s (some 66) 12 k45_24_bef dn (val (addrAdd (s.regs.get undefV 2) 1)) (Qd Tryz.prog hs ks k45_24 k45_24_bef 13 ⟨45, r⟩) else Qd Tryz.prog hs ks k45_24 k45_24_bef 13 ⟨45, r⟩ dn (skipS s (some 66)) := dI (by kernel_rfl)
theorem k45_24_13 : Qd Tryz.prog hs ks k45_24 k45_24_bef 13 ⟨45, r⟩ dn s = if wantB (s.regs.get undefV 65) true = true then stepD s (some 67) 13 k45_24_bef dn (xLoad Tryz.prog 35 s.h.get (s.regs.get undefV 66)) (Qd Tryz.prog hs ks k45_24 k45_24_bef 14 ⟨45, r⟩) else Qd Tryz.prog hs ks k45_24 k45_24_bef 14 ⟨45, r⟩ dn (skipS s (some 67)) := dI (by kernel_rfl)
theorem k45_24_14 : Qd Tryz.prog hs ks k45_24 k45_24_bef 14 ⟨45, r⟩ dn s = if wantB (s.regs.get undefV 65) true = true then stepD s (some 68) 14 k45_24_bef dn (some { v := (s.regs.get undefV 6) }) (Qd Tryz.prog hs ks k45_24 k45_24_bef 15 ⟨45, r⟩) else Qd Tryz.prog hs ks k45_24 k45_24_bef 15 ⟨45, r⟩ dn (skipS s (some 68)) := dI (by kernel_rfl)
theorem k45_24_15 : Qd Tryz.prog hs ks k45_24 k45_24_bef 15 ⟨45, r⟩ dn s = if wantB (s.regs.get undefV 65) true = true then stepD s (some 69) 15 k45_24_bef dn (val (indexAddr Tryz.prog 35 (s.regs.get undefV 67) (s.regs.get undefV 68))) (Qd Tryz.prog hs ks k45_24 k45_24_bef 16 ⟨45, r⟩) else Qd Tryz.prog hs ks k45_24 k45_24_bef 16 ⟨45, r⟩ dn (skipS s (some 69)) := dI (by kernel_rfl)
theorem k45_24_16 : Qd Tryz.prog hs ks k45_24 k45_24_bef 16 ⟨45, r⟩ dn s = if wantB (s.regs.get undefV 65) true = true then stepD s (some 70) 16 k45_24_bef dn (val (addrAdd (s.regs.get undefV 69) 0)) (Qd Tryz.prog hs ks k45_24 k45_24_bef 17 ⟨45, r⟩) else Qd Tryz.prog hs ks k45_24 k45_24_bef 17 ⟨45, r⟩ dn (skipS s (some 70)) := dI (by kernel_rfl)
theorem k45_24_17 : Qd Tryz.prog hs ks k45_24 k45_24_bef 17 ⟨45, r⟩ dn s = if wantB (s.regs.get undefV 65) true = true then stepD s (some 71) 17 k45_24_bef dn (xLoad Tryz.prog 3 s.h.get (s.regs.get undefV 70)) (Qd Tryz.prog hs ks k45_24 k45_24_bef 18 ⟨45, r⟩) else Qd Tryz.prog hs ks k45_24 k45_24_bef 18 ⟨45, r⟩ dn (skipS s (some 71)) := dI (by kernel_rfl)
theorem k45_24_18 : Qd Tryz.prog hs ks k45_24 k45_24_bef 18 ⟨45, r⟩ dn s = if wantB (s.regs.get undefV 65) true = true then stepD s (some 72) 18 k45_24_bef dn (val (addrAdd (s.regs.get undefV 3) 1)) (Qd Tryz.prog hs ks k45_24 k45_24_bef 19 ⟨45, r⟩) else Qd Tryz.prog hs ks k45_24 k45_24_bef 19 ⟨45, r⟩ dn (skipS s (some 72)) := dI (by kernel_rfl)
theorem k45_24_19 : Qd Tryz.prog hs ks k45_24 k45_24_bef 19 ⟨45, r⟩ dn s = if wantB (s.regs.get undefV 65) true = true then stepD s (some 73) 19 k45_24_bef dn (xLoad Tryz.prog 35 s.h.get (s.regs.get undefV 72)) (Qd Tryz.prog hs ks k45_24 k45_24_bef 20 ⟨45, r⟩) else Qd Tryz.prog hs ks k45_24 k45_24_bef 20 ⟨45, r⟩ dn (skipS s (some 73)) := dI (by kernel_rfl)
theorem k45_24_20 : Qd Tryz.prog hs ks k45_24 k45_24_bef 20 ⟨45, r⟩ dn s = if wantB (s.regs.get undefV 65) true = true then stepD s (some 74) 20 k45_24_bef dn (some { v := (s.regs.get undefV 7) }) (Qd Tryz.prog hs ks k45_24 k45_24_bef 21 ⟨45, r⟩) else Qd Tryz.prog hs ks k45_24 k45_24_bef 21 ⟨45, r⟩ dn (skipS s (some 74)) := dI (by kernel_rfl)
theorem k45_24_21 : Qd Tryz.prog hs ks k45_24 k45_24_bef 21 ⟨45, r⟩ dn s = if wantB (s.regs.get undefV 65) true = true then stepD s (some 75) 21 k45_24_bef dn (val (indexAddr Tryz.prog 35 (s.regs.get undefV 73) (s.regs.get undefV 74))) (Qd Tryz.prog hs ks k45_24 k45_24_bef 22 ⟨45, r⟩) else Qd Tryz.prog hs ks k45_24 k45_24_bef 22 ⟨45, r⟩ dn (skipS s (some 75)) := dI (by kernel_rfl)
theorem k45_24_22 : Qd Tryz.prog hs ks k45_24 k45_24_bef 22 ⟨45, r⟩ dn s = if wantB (s.regs.get undefV 65) true = true then stepD s (some 76) 22 k45_24_bef dn (val (addrAdd (s.regs.get undefV 75) 0)) (Qd Tryz.prog hs ks k45_24 k45_24_bef 23 ⟨45, r⟩) else Qd Tryz.prog hs ks k45_24 k45_24_bef 23 ⟨45, r⟩ dn (skipS s (some 76)) := dI (by kernel_rfl)
theorem k45_24_23 : Qd Tryz.prog hs ks k45_24 k45_24_bef 23 ⟨45, r⟩ dn s = if wantB (s.regs.get undefV 65) true = true then stepD s (some 77) 23 k45_24_bef dn (xLoad Tryz.prog 3 s.h.get (s.regs.get undefV 76)) (Qd Tryz.prog hs ks k45_24 k45_24_bef 24 ⟨45, r⟩) else Qd Tryz.prog hs ks k45_24 k45_24_bef 24 ⟨45, r⟩ dn (skipS s (some 77)) := dI (by kernel_rfl)
theorem k45_24_24 : Qd Tryz.prog hs ks k45_24 k45_24_bef 24 ⟨45, r⟩ dn s = if wantB (s.regs.get undefV 65) true = true then stepD s (some 78) 24 k45_24_bef dn (val (binV Tryz.prog .lss 3 false false (s.regs.get undefV 71) (s.regs.get undefV 77))) (Qd Tryz.prog hs ks k45_24 k45_24_bef 25 ⟨45, r⟩) else Qd Tryz.prog hs ks k45_24 k45_24_bef 25 ⟨45, r⟩ dn (skipS s (some 78)) := dI (by kernel_rfl)
theorem k45_24_25 : Qd Tryz.prog hs ks k45_24 k45_24_bef 25 ⟨45, r⟩ dn s = if wantB (s.regs.get undefV 59) false = true then stepD s (some 79) 25 k45_24_bef dn (xPick (s.regs.get undefV 65) (s.regs.get undefV 78) (.bool false)) (Qd Tryz.prog hs ks k45_24 k45_24_bef 26 ⟨45, r⟩) else Qd Tryz.prog hs ks k45_24 k45_24_bef 26 ⟨45, r⟩ dn (skipS s (some 79)) := dI (by kernel_rfl)
theorem k45_24_26 : Qd Tryz.prog hs ks k45_24 k45_24_bef 26 ⟨45, r⟩ dn s = stepD s (some 80) 26 k45_24_bef dn (xPick (s.regs.get undefV 59) (.bool true) (s.regs.get undefV 79)) (Qd Tryz.prog hs ks k45_24 k45_24_bef 27 ⟨45, r⟩) := dR (by kernel_rfl)
theorem k45_24_27 : Qd Tryz.prog hs ks k45_24 k45_24_bef 27 ⟨45, r⟩ dn s = stepD s (some 53) 27 k45_24_bef dn (some { v := (s.regs.get undefV 80) }) (Qd Tryz.prog hs ks k45_24 k45_24_bef 28 ⟨45, r⟩) := dR (by kernel_rfl)
theorem k45_24_28 : Qd Tryz.prog hs ks k45_24 k45_24_bef 28 ⟨45, r⟩ dn s = some [(.normal, s)] := Qd_end (by kernel_rfl) dn s
noncomputable def k45_26 : Code := codeA k45_25
noncomputable def k45_27 : Code := codeB k45_25
theorem k45_25_c : Qc Tryz.prog hs ks ⟨45, r⟩ k45_25 s = condV (s.regs.get undefV 53) (Qc Tryz.prog hs ks ⟨45, r⟩ k45_26) (Qc Tryz.prog hs ks ⟨45, r⟩ k45_27) s := Qc_cond (t := 53) (a := k45_26) (b := k45_27) (by kernel_rfl) _ _
noncomputable def k45_28 : Code := codeA k45_26
noncomputable def k45_29 : Code := codeB k45_26
theorem k45_26_c : Qc Tryz.prog hs ks ⟨45, r⟩ k45_26 s = thenV (Qc Tryz.prog hs ks ⟨45, r⟩ k45_28 s) (Qc Tryz.prog hs ks ⟨45, r⟩ k45_29) := Qc_seq (a := k45_28) (b := k45_29) (by kernel_rfl) _ _
theorem k45_28_c : Qc Tryz.prog hs ks ⟨45, r⟩ k45_28 s = Qo Tryz.prog hs ks k45_28 0 ⟨45, r⟩ s := Qc_region (id := 10) (ops := regOps k45_28) (by kernel_rfl) (by kernel_rfl) s
theorem k45_28_0 : Qo Tryz.prog hs ks k45_28 0 ⟨45, r⟩ s = stepV s (some 81) (val (addrAdd (s.regs.get undefV 2) 1)) (Qo Tryz.prog hs ks k45_28 1 ⟨45, r⟩) := oR (by kernel_rfl)
theorem k45_28_1 : Qo Tryz.prog hs ks k45_28 1 ⟨45, r⟩ s = stepV s (some 82) (xLoad Tryz.prog 35 s.h.get (s.regs.get undefV 81)) (Qo Tryz.prog hs ks k45_28 2 ⟨45, r⟩) := oR (by kernel_rfl)
theorem k45_28_2 : Qo Tryz.prog hs ks k45_28 2 ⟨45, r⟩ s = stepV s (some 83) (some { v := (s.regs.get undefV 6) }) (Qo Tryz.prog hs ks k45_28 3 ⟨45, r⟩) := oR (by kernel_rfl)
theorem k45_28_3 : Qo Tryz.prog hs ks k45_28 3 ⟨45, r⟩ s = stepV s (some 84) (val (indexAddr Tryz.prog 35 (s.regs.get undefV 82) (s.regs.get undefV 83))) (Qo Tryz.prog hs ks k45_28 4 ⟨45, r⟩) := oR (by kernel_rfl)
theorem k45_28_4 : Qo Tryz.prog hs ks k45_28 4 ⟨45, r⟩ s = stepV s (some 85) (xLoad Tryz.prog 74 s.h.get (s.regs.get undefV 84)) (Qo Tryz.prog hs ks k45_28 5 ⟨45, r⟩) := oR (by kernel_rfl)
theorem k45_28_5 : Qo Tryz.prog hs ks k45_28 5 ⟨45, r⟩ s = stepV s none (xStore Tryz.prog 74 s.h.get (s.regs.get undefV 9) (s.regs.get undefV 85)) (Qo Tryz.prog hs ks k45_28 6 ⟨45, r⟩) := oR (by kernel_rfl)
theorem k45_28_6 : Qo Tryz.prog hs ks k45_28 6 ⟨45, r⟩ s = some [(.normal, s)] := Qo_end (by kernel_rfl) s
theorem k45_29_c : Qc Tryz.prog hs ks ⟨45, r⟩ k45_29 s = Qo Tryz.prog hs ks k45_29 0 ⟨45, r⟩ s := Qc_region (id := 11) (ops := regOps k45_29) (by kernel_rfl) (by kernel_rfl) s
theorem k45_29_0 : Qo Tryz.prog hs ks k45_29 0 ⟨45, r⟩ s = stepV s (some 86) (some { v := (s.regs.get undefV 6) }) (Qo Tryz.prog hs ks k45_29 1 ⟨45, r⟩) := oR (by kernel_rfl)
theorem k45_29_1 : Qo Tryz.prog hs ks k45_29 1 ⟨45, r⟩ s = stepV s (some 87) (val (binV Tryz.prog .add 3 false true (s.regs.get undefV 86) (.int .i64 (1)))) (Qo Tryz.prog hs ks k45_29 2 ⟨45, r⟩) := oR (by kernel_rfl)
theorem k45_29_2 : Qo Tryz.prog hs ks k45_29 2 ⟨45, r⟩ s = stepV s (some 6) (some { v := (s.regs.get undefV 87) }) (Qo Tryz.prog hs ks k45_29 3 ⟨45, r⟩) := oR (by kernel_rfl)
theorem k45_29_3 : Qo Tryz.prog hs ks k45_29 3 ⟨45, r⟩ s = some [(.normal, s)] := Qo_end (by kernel_rfl) s
noncomputable def k45_30 : Code := codeA k45_27
noncomputable def k45_31 : Code := codeB k45_27
theorem k45_27_c : Qc Tryz.prog hs ks ⟨45, r⟩ k45_27 s = thenV (Qc Tryz.prog hs ks ⟨45, r⟩ k45_30 s) (Qc Tryz.prog hs ks ⟨45, r⟩ k45_31) := Qc_seq (a := k45_30) (b := k45_31) (by kernel_rfl) _ _
noncomputable def k45_30_bef : List Nat := [0, 0, 2, 6, 15, 31, 63, 127, 63, 511, 1023, 2047, 63, 4159, 63, 28735, 61503, 127039, 262143, 524287, 1048575]
theorem k45_30_c : Qc Tryz.prog hs ks ⟨45, r⟩ k45_30 s = Qd Tryz.prog hs ks k45_30 k45_30_bef 0 ⟨45, r⟩ [] s := Qc_draw (id := 12) (ops := regOps k45_30) (by kernel_rfl) (by kernel_rfl) (by kernel_rfl) (by kernel_rfl) s
theorem k45_30_0 : Qd Tryz.prog hs ks k45_30 k45_30_bef 0 ⟨45, r⟩ dn s = stepD s (some 89) 0 k45_30_bef dn (some { v := (s.regs.get undefV 6) }) (Qd Tryz.prog hs ks k45_30 k45_30_bef 1 ⟨45, r⟩) := dR (by kernel_rfl)
theorem k45_30_1 : Qd Tryz.prog hs ks k45_30 k45_30_bef 1 ⟨45, r⟩ dn s = stepD s (some 90) 1 k45_30_bef dn (val (addrAdd (s.regs.get undefV 2) 1)) (Qd Tryz.prog hs ks k45_30 k45_30_bef 2 ⟨45, r⟩) := dR (by kernel_rfl)
theorem k45_30_2 : Qd Tryz.prog hs ks k45_30 k45_30_bef 2 ⟨45, r⟩ dn s = stepD s (some 91) 2 k45_30_bef dn (xLoad Tryz.prog 35 s.h.get (s.regs.get undefV 90)) (Qd Tryz.prog hs ks k45_30 k45_30_bef 3 ⟨45, r⟩) := dR (by kernel_rfl)
theorem k45_30_3 : Qd Tryz.prog hs ks k45_30 k45_30_bef 3 ⟨45, r⟩ dn s = stepD s (some 92) 3 k45_30_bef dn (builtinV Tryz.prog false s.h.get s.h.n .len [35] [(s.regs.get undefV 91)]) (Qd Tryz.prog hs ks k45_30 k45_30_bef 4 ⟨45, r⟩) := dR (by kernel_rfl)
theorem k45_30_4 : Qd Tryz.prog hs ks k45_30 k45_30_bef 4 ⟨45, r⟩ dn s = stepD s (some 93) 4 k45_30_bef dn (val (binV Tryz.prog .eql 3 false false (s.regs.get undefV 89) (s.regs.get undefV 92))) (Qd Tryz.prog hs ks k45_30 k45_30_bef 5 ⟨45, r⟩) := dR (by kernel_rfl)
theorem k45_30_5 : Qd Tryz.prog hs ks k45_30 k45_30_bef 5 ⟨45, r⟩ dn s = stepD s (some 94) 5 k45_30_bef dn (some { v := (s.regs.get undefV 93) }) (Qd Tryz.prog hs ks k45_30 k45_30_bef 6 ⟨45, r⟩) := dR (by kernel_rfl)
theorem k45_30_6 : Qd Tryz.prog hs ks k45_30 k45_30_bef 6 ⟨45, r⟩ dn s = if wantB (s.regs.get undefV 94) false = true then stepD s (some 95) 6 k45_30_bef dn (val (addrAdd (s.regs.get undefV 3) 1)) (Qd Tryz.prog hs ks k45_30 k45_30_bef 7 ⟨45, r⟩) else Qd Tryz.prog hs ks k45_30 k45_30_bef 7 ⟨45, r⟩ dn (skipS s (some 95)) := dI (by kernel_rfl)
theorem k45_30_7 : Qd Tryz.prog hs ks k45_30 k45_30_bef 7 ⟨45, r⟩ dn s = if wantB (s.regs.get undefV 94) false = true then stepD s (some 96) 7 k45_30_bef dn (xLoad Tryz.prog 35 s.h.get (s.regs.get undefV 95)) (Qd Tryz.prog hs ks k45_30 k45_30_bef 8 ⟨45, r⟩) else Qd Tryz.prog hs ks k45_30 k45_30_bef 8 ⟨45, r⟩ dn (skipS s (some 96)) := dI (by kernel_rfl)
theorem k45_30_8 : Qd Tryz.prog hs ks k45_30 k45_30_bef 8 ⟨45, r⟩ dn s = if wantB (s.regs.get undefV 94) false = true then stepD s (some 97) 8 k45_30_bef dn (some { v := (s.regs.get undefV 7) }) (Qd Tryz.prog hs ks k45_30 k45_30_bef 9 ⟨45, r⟩) else Qd Tryz.prog hs ks k45_30 k45_30_bef 9 ⟨45, r⟩ dn (skipS s (some 97)) := dI (by kernel_rfl)
theorem k45_30_9 : Qd Tryz.prog hs ks k45_30 k45_30_bef 9 ⟨45, r⟩ dn s = if wantB (s.regs.get undefV 94) false = true then stepD s (some 98) 9 k45_30_bef dn (val (indexAddr Tryz.prog 35 (s.regs.get undefV 96) (s.regs.get undefV 97))) (Qd Tryz.prog hs ks k45_30 k45_30_bef 10 ⟨45, r⟩) else Qd Tryz.prog hs ks k45_30 k45_30_bef 10 ⟨45, r⟩ dn (skipS s (some 98)) := dI (by kernel_rfl)
theorem k45_30_10 : Qd Tryz.prog hs ks k45_30 k45_30_bef 10 ⟨45, r⟩ dn s = if wantB (s.regs.get undefV 94) false = true then stepD s (some 99) 10 k45_30_bef dn (val (addrAdd (s.regs.get undefV 98) 0)) (Qd Tryz.prog hs ks k45_30 k45_30_bef 11 ⟨45, r⟩) else Qd Tryz.prog hs ks k45_30 k45_30_bef 11 ⟨45, r⟩ dn (skipS s (some 99)) := dI (by kernel_rfl)
theorem k45_30_11 : Qd Tryz.prog hs ks k45_30 k45_30_bef 11 ⟨45, r⟩ dn s = if wantB (s.regs.get undefV 94) false = true then stepD s (some 100) 11 k45_30_bef dn (xLoad Tryz.prog 3 s.h.get (s.regs.get undefV 99)) (Qd Tryz.prog hs ks k45_30 k45_30_bef 12 ⟨45, r⟩) else Qd Tryz.prog hs ks k45_30 k45_30_bef 12 ⟨45, r⟩ dn (skipS s (some 100)) := dI (by kernel_rfl)
theorem k45_30_12 : Qd Tryz.prog hs ks k45_30 k45_30_bef 12 ⟨45, r⟩ dn s = if wantB (s.regs.get undefV 94) false = true then stepD s (some 101) 12 k45_30_bef dn (val (addrAdd (s.regs.get undefV 2) 1)) (Qd Tryz.prog hs ks k45_30 k45_30_bef 13 ⟨45, r⟩) else Qd Tryz.prog hs ks k45_30 k45_30_bef 13 ⟨45, r⟩ dn (skipS s (some 101)) := dI (by kernel_rfl)
theorem k45_30_13 : Qd Tryz.prog hs ks k45_30 k45_30_bef 13 ⟨45, r⟩ dn s = if wantB (s.regs.get undefV 94) false = true then stepD s (some 102) 13 k45_30_bef dn (xLoad Tryz.prog 35 s.h.get (s.regs.get undefV 101)) (Qd Tryz.prog hs ks k45_30 k45_30_bef 14 ⟨45, r⟩) else Qd Tryz.prog hs ks k45_30 k45_30_bef 14 ⟨45, r⟩ dn (skipS s (some 102)) := dI (by kernel_rfl)
theorem k45_30_14 : Qd Tryz.prog hs ks k45_30 k45_30_bef 14 ⟨45, r⟩ dn s = if wantB (s.regs.get undefV 94) false = true then stepD s (some 103) 14 k45_30_bef dn (some { v := (s.regs.get undefV 6) }) (Qd Tryz.prog hs ks k45_30 k45_30_bef 15 ⟨45, r⟩) else Qd Tryz.prog hs ks k45_30 k45_30_bef 15 ⟨45, r⟩ dn (skipS s (some 103)) := dI (by kernel_rfl)
theorem k45_30_15 : Qd Tryz.prog hs ks k45_30 k45_30_bef 15 ⟨45, r⟩ dn s = if wantB (s.regs.get undefV 94) false = true then stepD s (some 104) 15 k45_30_bef dn (val (indexAddr Tryz.prog 35 (s.regs.get undefV 102) (s.regs.get undefV 103))) (Qd Tryz.prog hs ks k45_30 k45_30_bef 16 ⟨45, r⟩) else Qd Tryz.prog hs ks k45_30 k45_30_bef 16 ⟨45, r⟩ dn (skipS s (some 104)) := dI (by kernel_rfl)
theorem k45_30_16 : Qd Tryz.prog hs ks k45_30 k45_30_bef 16 ⟨45, r⟩ dn s = if wantB (s.regs.get undefV 94) false = true then stepD s (some 105) 16 k45_30_bef dn (val (addrAdd (s.regs.get undefV 104) 0)) (Qd Tryz.prog hs ks k45_30 k45_30_bef 17 ⟨45, r⟩) else Qd Tryz.prog hs ks k45_30 k45_30_bef 17 ⟨45, r⟩ dn (skipS s (some 105)) := dI (by kernel_rfl)
theorem k45_30_17 : Qd Tryz.prog hs ks k45_30 k45_30_bef 17 ⟨45, r⟩ dn s = if wantB (s.regs.get undefV 94) false = true then stepD s (some 106) 17 k45_30_bef dn (xLoad Tryz.prog 3 s.h.get (s.regs.get undefV 105)) (Qd Tryz.prog hs ks k45_30 k45_30_bef 18 ⟨45, r⟩) else Qd Tryz.prog hs ks k45_30 k45_30_bef 18 ⟨45, r⟩ dn (skipS s (some 106)) := dI (by kernel_rfl)
theorem k45_30_18 : Qd Tryz.prog hs ks k45_30 k45_30_bef 18 ⟨45, r⟩ dn s = if wantB (s.regs.get undefV 94) false = true then stepD s (some 107) 18 k45_30_bef dn (val (binV Tryz.prog .lss 3 false false (s.regs.get undefV 100) (s.regs.get undefV 106))) (Qd Tryz.prog hs ks k45_30 k45_30_bef 19 ⟨45, r⟩) else Qd Tryz.prog hs ks k45_30 k45_30_bef 19 ⟨45, r⟩ dn (skipS s (some 107)) := dI (by kernel_rfl)
theorem k45_30_19 : Qd Tryz.prog hs ks k45_30 k45_30_bef 19 ⟨45, r⟩ dn s = stepD s (some 108) 19 k45_30_bef dn (xPick (s.regs.get undefV 94) (.bool true) (s.regs.get undefV 107)) (Qd Tryz.prog hs ks k45_30 k45_30_bef 20 ⟨45, r⟩) := dR (by kernel_rfl)
theorem k45_30_20 : Qd Tryz.prog hs ks k45_30 k45_30_bef 20 ⟨45, r⟩ dn s = stepD s (some 88) 20 k45_30_bef dn (some { v := (s.regs.get undefV 108) }) (Qd Tryz.prog hs ks k45_30 k45_30_bef 21 ⟨45, r⟩) := dR (by kernel_rfl)
theorem k45_30_21 : Qd Tryz.prog hs ks k45_30 k45_30_bef 21 ⟨45, r⟩ dn s = some [(.normal, s)] := Qd_end (by kernel_rfl) dn s
noncomputable def k45_32 : Code := codeA k45_31
noncomputable def k45_33 : Code := codeB k45_31
theorem k45_31_c : Qc Tryz.prog hs ks ⟨45, r⟩ k45_31 s = condV (s.regs.get undefV 88) (Qc Tryz.prog hs ks ⟨45, r⟩ k45_32) (Qc Tryz.prog hs ks ⟨45, r⟩ k45_33) s := Qc_cond (t := 88) (a := k45_32) (b := k45_33) (by kernel_rfl) _ _
noncomputable def k45_34 : Code := codeA k45_32
noncomputable def k45_35 : Code := codeB k45_32
theorem k45_32_c : Qc Tryz.prog hs ks ⟨45, r⟩ k45_32 s = thenV (Qc Tryz.prog hs ks ⟨45, r⟩ k45_34 s) (Qc Tryz.prog hs ks ⟨45, r⟩ k45_35) := Qc_seq (a := k45_34) (b := k45_35) (by kernel_rfl) _ _
theorem k45_34_c : Qc Tryz.prog hs ks ⟨45, r⟩ k45_34 s = Qo Tryz.prog hs ks k45_34 0 ⟨45, r⟩ s := Qc_region (id := 13) (ops := regOps k45_34) (by kernel_rfl) (by kernel_rfl) s
theorem k45_34_0 : Qo Tryz.prog hs ks k45_34 0 ⟨45, r⟩ s = stepV s (some 109) (val (addrAdd (s.regs.get undefV 3) 1)) (Qo Tryz.prog hs ks k45_34 1 ⟨45, r⟩) := oR (by kernel_rfl)
theorem k45_34_1 : Qo Tryz.prog hs ks k45_34 1 ⟨45, r⟩ s = stepV s (some 110) (xLoad Tryz.prog 35 s.h.get (s.regs.get undefV 109)) (Qo Tryz.prog hs ks k45_34 2 ⟨45, r⟩) := oR (by kernel_rfl)
theorem k45_34_2 : Qo Tryz.prog hs ks k45_34 2 ⟨45, r⟩ s = stepV s (some 111) (some { v := (s.regs.get undefV 7) }) (Qo Tryz.prog hs ks k45_34 3 ⟨45, r⟩) := oR (by kernel_rfl)
theorem k45_34_3 : Qo Tryz.prog hs ks k45_34 3 ⟨45, r⟩ s = stepV s (some 112) (val (indexAddr Tryz.prog 35 (s.regs.get undefV 110) (s.regs.get undefV 111))) (Qo Tryz.prog hs ks k45_34 4 ⟨45, r⟩) := oR (by kernel_rfl)
theorem k45_34_4 : Qo Tryz.prog hs ks k45_34 4 ⟨45, r⟩ s = stepV s (some 113) (xLoad Tryz.prog 74 s.h.get (s.regs.get undefV 112)) (Qo Tryz.prog hs ks k45_34 5 ⟨45, r⟩) := oR (by kernel_rfl)
theorem k45_34_5 : Qo Tryz.prog hs ks k45_34 5 ⟨45, r⟩ s = stepV s none (xStore Tryz.prog 74 s.h.get (s.regs.get undefV 9) (s.regs.get undefV 113)) (Qo Tryz.prog hs ks k45_34 6 ⟨45, r⟩) := oR (by kernel_rfl)
theorem k45_34_6 : Qo Tryz.prog hs ks k45_34 6 ⟨45, r⟩ s = some [(.normal, s)] := Qo_end (by kernel_rfl) s
theorem k45_35_c : Qc Tryz.prog hs ks ⟨45, r⟩ k45_35 s = Qo Tryz.prog hs ks k45_35 0 ⟨45, r⟩ s := Qc_region (id := 14) (ops := regOps k45_35) (by kernel_rfl) (by kernel_rfl) s
theorem k45_35_0 : Qo Tryz.prog hs ks k45_35 0 ⟨45, r⟩ s = stepV s (some 114) (some { v := (s.regs.get undefV 7) }) (Qo Tryz.prog hs ks k45_35 1 ⟨45, r⟩) := oR (by kernel_rfl)
theorem k45_35_1 : Qo Tryz.prog hs ks k45_35 1 ⟨45, r⟩ s = stepV s (some 115) (val (binV Tryz.prog .add 3 false true (s.regs.get undefV 114) (.int .i64 (1)))) (Qo Tryz.prog hs ks k45_35 2 ⟨45, r⟩) := oR (by kernel_rfl)
theorem k45_35_2 : Qo Tryz.prog hs ks k45_35 2 ⟨45, r⟩ s = stepV s (some 7) (some { v := (s.regs.get undefV 115) }) (Qo Tryz.prog hs ks k45_35 3 ⟨45, r⟩) := oR (by kernel_rfl)
theorem k45_35_3 : Qo Tryz.prog hs ks k45_35 3 ⟨45, r⟩ s = some [(.normal, s)] := Qo_end (by kernel_rfl) s
noncomputable def k45_36 : Code := codeA k45_33
noncomputable def k45_37 : Code := codeB k45_33
theorem k45_33_c : Qc Tryz.prog hs ks ⟨45, r⟩ k45_33 s = thenV (Qc Tryz.prog hs ks ⟨45, r⟩ k45_36 s) (Qc Tryz.prog hs ks ⟨45, r⟩ k45_37) := Qc_seq (a := k45_36) (b := k45_37) (by kernel_rfl) _ _
noncomputable def k45_36_bef : List Nat := [0, 1, 0, 7, 15, 31, 0, 64, 0, 448, 960, 1984, 0, 4096, 0, 28672, 61440, 126976, 262080, 524287, 1048575]
theorem k45_36_c : Qc Tryz.prog hs ks ⟨45, r⟩ k45_36 s = Qd Tryz.prog hs ks k45_36 k45_36_bef 0 ⟨45, r⟩ [] s := Qc_draw (id := 6) (ops := regOps k45_36) (by kernel_rfl) (by kernel_rfl) (by kernel_rfl) (by kernel_rfl) s
theorem k45_36_0 : Qd Tryz.prog hs ks k45_36 k45_36_bef 0 ⟨45, r⟩ dn s = stepD s (some 29) 0 k45_36_bef dn (val (addrAdd (s.regs.get undefV 2) 1)) (Qd Tryz.prog hs ks k45_36 k45_36_bef 1 ⟨45, r⟩) := dR (by kernel_rfl)
theorem k45_36_1 : Qd Tryz.prog hs ks k45_36 k45_36_bef 1 ⟨45, r⟩ dn s = stepD s (some 30) 1 k45_36_bef dn (xLoad Tryz.prog 35 s.h.get (s.regs.get undefV 29)) (Qd Tryz.prog hs ks k45_36 k45_36_bef 2 ⟨45, r⟩) := dR (by kernel_rfl)
theorem k45_36_2 : Qd Tryz.prog hs ks k45_36 k45_36_bef 2 ⟨45, r⟩ dn s = stepD s (some 31) 2 k45_36_bef dn (some { v := (s.regs.get undefV 6) }) (Qd Tryz.prog hs ks k45_36 k45_36_bef 3 ⟨45, r⟩) := dR (by kernel_rfl)
theorem k45_36_3 : Qd Tryz.prog hs ks k45_36 k45_36_bef 3 ⟨45, r⟩ dn s = stepD s (some 32) 3 k45_36_bef dn (val (indexAddr Tryz.prog 35 (s.regs.get undefV 30) (s.regs.get undefV 31))) (Qd Tryz.prog hs ks k45_36 k45_36_bef 4 ⟨45, r⟩) := dR (by kernel_rfl)
theorem k45_36_4 : Qd Tryz.prog hs ks k45_36 k45_36_bef 4 ⟨45, r⟩ dn s = stepD s (some 33) 4 k45_36_bef dn (val (addrAdd (s.regs.get undefV 32) 0)) (Qd Tryz.prog hs ks k45_36 k45_36_bef 5 ⟨45, r⟩) := dR (by kernel_rfl)
theorem k45_36_5 : Qd Tryz.prog hs ks k45_36 k45_36_bef 5 ⟨45, r⟩ dn s = stepD s (some 34) 5 k45_36_bef dn (xLoad Tryz.prog 3 s.h.get (s.regs.get undefV 33)) (Qd Tryz.prog hs ks k45_36 k45_36_bef 6 ⟨45, r⟩) := dR (by kernel_rfl)
theorem k45_36_6 : Qd Tryz.prog hs ks k45_36 k45_36_bef 6 ⟨45, r⟩ dn s = stepD s (some 35) 6 k45_36_bef dn (val (addrAdd (s.regs.get undefV 2) 1)) (Qd Tryz.prog hs ks k45_36 k45_36_bef 7 ⟨45, r⟩) := dR (by kernel_rfl)
theorem k45_36_7 : Qd Tryz.prog hs ks k45_36 k45_36_bef 7 ⟨45, r⟩ dn s = stepD s (some 36) 7 k45_36_bef dn (xLoad Tryz.prog 35 s.h.get (s.regs.get undefV 35)) (Qd Tryz.prog hs ks k45_36 k45_36_bef 8 ⟨45, r⟩) := dR (by kernel_rfl)
theorem k45_36_8 : Qd Tryz.prog hs ks k45_36 k45_36_bef 8 ⟨45, r⟩ dn s = stepD s (some 37) 8 k45_36_bef dn (some { v := (s.regs.get undefV 6) }) (Qd Tryz.prog hs ks k45_36 k45_36_bef 9 ⟨45, r⟩) := dR (by kernel_rfl)
theorem k45_36_9 : Qd Tryz.prog hs ks k45_36 k45_36_bef 9 ⟨45, r⟩ dn s = stepD s (some 38) 9 k45_36_bef dn (val (indexAddr Tryz.prog 35 (s.regs.get undefV 36) (s.regs.get undefV 37))) (Qd Tryz.prog hs ks k45_36 k45_36_bef 10 ⟨45, r⟩) := dR (by kernel_rfl)
theorem k45_36_10 : Qd Tryz.prog hs ks k45_36 k45_36_bef 10 ⟨45, r⟩ dn s = stepD s (some 39) 10 k45_36_bef dn (val (addrAdd (s.regs.get undefV 38) 1)) (Qd Tryz.prog hs ks k45_36 k45_36_bef 11 ⟨45, r⟩) := dR (by kernel_rfl)
theorem k45_36_11 : Qd Tryz.prog hs ks k45_36 k45_36_bef 11 ⟨45, r⟩ dn s = stepD s (some 40) 11 k45_36_bef dn (xLoad Tryz.prog 3 s.h.get (s.regs.get undefV 39)) (Qd Tryz.prog hs ks k45_36 k45_36_bef 12 ⟨45, r⟩) := dR (by kernel_rfl)
theorem k45_36_12 : Qd Tryz.prog hs ks k45_36 k45_36_bef 12 ⟨45, r⟩ dn s = stepD s (some 41) 12 k45_36_bef dn (val (addrAdd (s.regs.get undefV 3) 1)) (Qd Tryz.prog hs ks k45_36 k45_36_bef 13 ⟨45, r⟩) := dR (by kernel_rfl)
theorem k45_36_13 : Qd Tryz.prog hs ks k45_36 k45_36_bef 13 ⟨45, r⟩ dn s = stepD s (some 42) 13 k45_36_bef dn (xLoad Tryz.prog 35 s.h.get (s.regs.get undefV 41)) (Qd Tryz.prog hs ks k45_36 k45_36_bef 14 ⟨45, r⟩) := dR (by kernel_rfl)
theorem k45_36_14 : Qd Tryz.prog hs ks k45_36 k45_36_bef 14 ⟨45, r⟩ dn s = stepD s (some 43) 14 k45_36_bef dn (some { v := (s.regs.get undefV 7) }) (Qd Tryz.prog hs ks k45_36 k45_36_bef 15 ⟨45, r⟩) := dR (by kernel_rfl)
theorem k45_36_15 : Qd Tryz.prog hs ks k45_36 k45_36_bef 15 ⟨45, r⟩ dn s = stepD s (some 44) 15 k45_36_bef dn (val (indexAddr Tryz.prog 35 (s.regs.get undefV 42) (s.regs.get undefV 43))) (Qd Tryz.prog hs ks k45_36 k45_36_bef 16 ⟨45, r⟩) := dR (by kernel_rfl)
theorem k45_36_16 : Qd Tryz.prog hs ks k45_36 k45_36_bef 16 ⟨45, r⟩ dn s = stepD s (some 45) 16 k45_36_bef dn (val (addrAdd (s.regs.get undefV 44) 1)) (Qd Tryz.prog hs ks k45_36 k45_36_bef 17 ⟨45, r⟩) := dR (by kernel_rfl)
theorem k45_36_17 : Qd Tryz.prog hs ks k45_36 k45_36_bef 17 ⟨45, r⟩ dn s = stepD s (some 46) 17 k45_36_bef dn (xLoad Tryz.prog 3 s.h.get (s.regs.get undefV 45)) (Qd Tryz.prog hs ks k45_36 k45_36_bef 18 ⟨45, r⟩) := dR (by kernel_rfl)
theorem k45_36_18 : Qd Tryz.prog hs ks k45_36 k45_36_bef 18 ⟨45, r⟩ dn s = stepD s (some 47) 18 k45_36_bef dn (builtinV Tryz.prog false s.h.get s.h.n .max [3, 3] [(s.regs.get undefV 40), (s.regs.get undefV 46)]) (Qd Tryz.prog hs ks k45_36 k45_36_bef 19 ⟨45, r⟩) := dR (by kernel_rfl)
theorem k45_36_19 : Qd Tryz.prog hs ks k45_36 k45_36_bef 19 ⟨45, r⟩ dn s = stepD s (some 48) 19 k45_36_bef dn (val (build Tryz.prog 74 [(0, (s.regs.get undefV 34)), (1, (s.regs.get undefV 47))])) (Qd Tryz.prog hs ks k45_36 k45_36_bef 20 ⟨45, r⟩) := dR (by kernel_rfl)
theorem k45_36_20 : Qd Tryz.prog hs ks k45_36 k45_36_bef 20 ⟨45, r⟩ dn s = stepD s none 20 k45_36_bef dn (xStore Tryz.prog 74 s.h.get (s.regs.get undefV 9) (s.regs.get undefV 48)) (Qd Tryz.prog hs ks k45_36 k45_36_bef 21 ⟨45, r⟩) := dR (by kernel_rfl)
theorem k45_36_21 : Qd Tryz.prog hs ks k45_36 k45_36_bef 21 ⟨45, r⟩ dn s = some [(.normal, s)] := Qd_end (by kernel_rfl) dn s
noncomputable def k45_38 : Code := codeA k45_37
noncomputable def k45_39 : Code := codeB k45_37
theorem k45_37_c : Qc Tryz.prog hs ks ⟨45, r⟩ k45_37 s = thenV (Qc Tryz.prog hs ks ⟨45, r⟩ k45_38 s) (Qc Tryz.prog hs ks ⟨45, r⟩ k45_39) := Qc_seq (a := k45_38) (b := k45_39) (by kernel_rfl) _ _
theorem k45_38_c : Qc Tryz.prog hs ks ⟨45, r⟩ k45_38 s = Qo Tryz.prog hs ks k45_38 0 ⟨45, r⟩ s := Qc_region (id := 7) (ops := regOps k45_38) (by kernel_rfl) (by kernel_rfl) s
theorem k45_38_0 : Qo Tryz.prog hs ks k45_38 0 ⟨45, r⟩ s = stepV s (some 49) (some { v := (s.regs.get undefV 6) }) (Qo Tryz.prog hs ks k45_38 1 ⟨45, r⟩) := oR (by kernel_rfl)
theorem k45_38_1 : Qo Tryz.prog hs ks k45_38 1 ⟨45, r⟩ s = stepV s (some 50) (val (binV Tryz.prog .add 3 false true (s.regs.get undefV 49) (.int .i64 (1)))) (Qo Tryz.prog hs ks k45_38 2 ⟨45, r⟩) := oR (by kernel_rfl)
theorem k45_38_2 : Qo Tryz.prog hs ks k45_38 2 ⟨45, r⟩ s = stepV s (some 6) (some { v := (s.regs.get undefV 50) }) (Qo Tryz.prog hs ks k45_38 3 ⟨45, r⟩) := oR (by kernel_rfl)
theorem k45_38_3 : Qo Tryz.prog hs ks k45_38 3 ⟨45, r⟩ s = some [(.normal, s)] := Qo_end (by kernel_rfl) s
theorem k45_39_c : Qc Tryz.prog hs ks ⟨45, r⟩ k45_39 s = Qo Tryz.prog hs ks k45_39 0 ⟨45, r⟩ s := Qc_region (id := 8) (ops := regOps k45_39) (by kernel_rfl) (by kernel_rfl) s
theorem k45_39_0 : Qo Tryz.prog hs ks k45_39 0 ⟨45, r⟩ s = stepV s (some 51) (some { v := (s.regs.get undefV 7) }) (Qo Tryz.prog hs ks k45_39 1 ⟨45, r⟩) := oR (by kernel_rfl)
theorem k45_39_1 : Qo Tryz.prog hs ks k45_39 1 ⟨45, r⟩ s = stepV s (some 52) (val (binV Tryz.prog .add 3 false true (s.regs.get undefV 51) (.int .i64 (1)))) (Qo Tryz.prog hs ks k45_39 2 ⟨45, r⟩) := oR (by kernel_rfl)
theorem k45_39_2 : Qo Tryz.prog hs ks k45_39 2 ⟨45, r⟩ s = stepV s (some 7) (some { v := (s.regs.get undefV 52) }) (Qo Tryz.prog hs ks k45_39 3 ⟨45, r⟩) := oR (by kernel_rfl)
theorem k45_39_3 : Qo Tryz.prog hs ks k45_39 3 ⟨45, r⟩ s = some [(.normal, s)] := Qo_end (by kernel_rfl) s
noncomputable def k45_40 : Code := codeA k45_22
noncomputable def k45_41 : Code := codeB k45_22
theorem k45_22_c : Qc Tryz.prog hs ks ⟨45, r⟩ k45_22 s = thenV (Qc Tryz.prog hs ks ⟨45, r⟩ k45_40 s) (Qc Tryz.prog hs ks ⟨45, r⟩ k45_41) := Qc_seq (a := k45_40) (b := k45_41) (by kernel_rfl) _ _
theorem k45_40_c : Qc Tryz.prog hs ks ⟨45, r⟩ k45_40 s = Qo Tryz.prog hs ks k45_40 0 ⟨45, r⟩ s := Qc_region (id := 15) (ops := regOps k45_40) (by kernel_rfl) (by kernel_rfl) s
theorem k45_40_0 : Qo Tryz.prog hs ks k45_40 0 ⟨45, r⟩ s = stepV s (some 116) (some { v := (s.regs.get undefV 8) }) (Qo Tryz.prog hs ks k45_40 1 ⟨45, r⟩) := oR (by kernel_rfl)
theorem k45_40_1 : Qo Tryz.prog hs ks k45_40 1 ⟨45, r⟩ s = stepV s (some 117) (val (addrAdd (s.regs.get undefV 9) 1)) (Qo Tryz.prog hs ks k45_40 2 ⟨45, r⟩) := oR (by kernel_rfl)
theorem k45_40_2 : Qo Tryz.prog hs ks k45_40 2 ⟨45, r⟩ s = stepV s (some 118) (xLoad Tryz.prog 3 s.h.get (s.regs.get undefV 117)) (Qo Tryz.prog hs ks k45_40 3 ⟨45, r⟩) := oR (by kernel_rfl)
theorem k45_40_3 : Qo Tryz.prog hs ks k45_40 3 ⟨45, r⟩ s = stepV s (some 119) (builtinV Tryz.prog false s.h.get s.h.n .max [3, 3] [(s.regs.get undefV 116), (s.regs.get undefV 118)]) (Qo Tryz.prog hs ks k45_40 4 ⟨45, r⟩) := oR (by kernel_rfl)
theorem k45_40_4 : Qo Tryz.prog hs ks k45_40 4 ⟨45, r⟩ s = stepV s (some 8) (some { v := (s.regs.get undefV 119) }) (Qo Tryz.prog hs ks k45_40 5 ⟨45, r⟩) := oR (by kernel_rfl)
theorem k45_40_5 : Qo Tryz.prog hs ks k45_40 5 ⟨45, r⟩ s = some [(.normal, s)] := Qo_end (by kernel_rfl) s
theorem k45_41_c : Qc Tryz.prog hs ks ⟨45, r⟩ k45_41 s = Qo Tryz.prog hs ks k45_41 0 ⟨45, r⟩ s := Qc_region (id := 16) (ops := regOps k45_41) (by kernel_rfl) (by kernel_rfl) s
theorem k45_41_0 : Qo Tryz.prog hs ks k45_41 0 ⟨45, r⟩ s = stepV s (some 120) (val (addrAdd (s.regs.get undefV 5) 1)) (Qo Tryz.prog hs ks k45_41 1 ⟨45, r⟩) := oR (by kernel_rfl)
theorem k45_41_1 : Qo Tryz.prog hs ks k45_41 1 ⟨45, r⟩ s = stepV s (some 121) (xLoad Tryz.prog 35 s.h.get (s.regs.get undefV 120)) (Qo Tryz.prog hs ks k45_41 2 ⟨45, r⟩) := oR (by kernel_rfl)
theorem k45_41_2 : Qo Tryz.prog hs ks k45_41 2 ⟨45, r⟩ s = stepV s (some 122) (xLoad Tryz.prog 74 s.h.get (s.regs.get undefV 9)) (Qo Tryz.prog hs ks k45_41 3 ⟨45, r⟩) := oR (by kernel_rfl)
theorem k45_41_3 : Qo Tryz.prog hs ks k45_41 3 ⟨45, r⟩ s = stepV s (some 123) (litS Tryz.prog false 35 1 [(0, (s.regs.get undefV 122))] s.h.n) (Qo Tryz.prog hs ks k45_41 4 ⟨45, r⟩) := oR (by kernel_rfl)
theorem k45_41_4 : Qo Tryz.prog hs ks k45_41 4 ⟨45, r⟩ s = stepV s (some 124) (builtinV Tryz.prog false s.h.get s.h.n .append [35, 35] [(s.regs.get undefV 121), (s.regs.get undefV 123)]) (Qo Tryz.prog hs ks k45_41 5 ⟨45, r⟩) := oR (by kernel_rfl)
theorem k45_41_5 : Qo Tryz.prog hs ks k45_41 5 ⟨45, r⟩ s = stepV s (some 125) (val (addrAdd (s.regs.get undefV 5) 1)) (Qo Tryz.prog hs ks k45_41 6 ⟨45, r⟩) := oR (by kernel_rfl)
theorem k45_41_6 : Qo Tryz.prog hs ks k45_41 6 ⟨45, r⟩ s = stepV s none (xStore Tryz.prog 35 s.h.get (s.regs.get undefV 125) (s.regs.get undefV 124)) (Qo Tryz.prog hs ks k45_41 7 ⟨45, r⟩) := oR (by kernel_rfl)
theorem k45_41_7 : Qo Tryz.prog hs ks k45_41 7 ⟨45, r⟩ s = some [(.normal, s)] := Qo_end (by kernel_rfl) s
noncomputable def k45_42 : Code := codeA k45_9
noncomputable def k45_43 : Code := codeB k45_9
theorem k45_9_c : Qc Tryz.prog hs ks ⟨45, r⟩ k45_9 s = thenV (Qc Tryz.prog hs ks ⟨45, r⟩ k45_42 s) (Qc Tryz.prog hs ks ⟨45, r⟩ k45_43) := Qc_seq (a := k45_42) (b := k45_43) (by kernel_rfl) _ _
noncomputable def k45_44 : Code := codeA k45_42
noncomputable def k45_45 : Code := codeB k45_42
theorem k45_42_c : Qc Tryz.prog hs ks ⟨45, r⟩ k45_42 s = thenV (Qc Tryz.prog hs ks ⟨45, r⟩ k45_44 s) (Qc Tryz.prog hs ks ⟨45, r⟩ k45_45) := Qc_seq (a := k45_44) (b := k45_45) (by kernel_rfl) _ _
theorem k45_44_c : Qc Tryz.prog hs ks ⟨45, r⟩ k45_44 s = Qo Tryz.prog hs ks k45_44 0 ⟨45, r⟩ s := Qc_region (id := 17) (ops := regOps k45_44) (by kernel_rfl) (by kernel_rfl) s
theorem k45_44_0 : Qo Tryz.prog hs ks k45_44 0 ⟨45, r⟩ s = stepV s (some 126) (val (addrAdd (s.regs.get undefV 5) 1)) (Qo Tryz.prog hs ks k45_44 1 ⟨45, r⟩) := oR (by kernel_rfl)
theorem k45_44_1 : Qo Tryz.prog hs ks k45_44 1 ⟨45, r⟩ s = stepV s (some 127) (xLoad Tryz.prog 35 s.h.get (s.regs.get undefV 126)) (Qo Tryz.prog hs ks k45_44 2 ⟨45, r⟩) := oR (by kernel_rfl)
theorem k45_44_2 : Qo Tryz.prog hs ks k45_44 2 ⟨45, r⟩ s = stepV s (some 128) (builtinV Tryz.prog false s.h.get s.h.n .len [35] [(s.regs.get undefV 127)]) (Qo Tryz.prog hs ks k45_44 3 ⟨45, r⟩) := oR (by kernel_rfl)
theorem k45_44_3 : Qo Tryz.prog hs ks k45_44 3 ⟨45, r⟩ s = stepV s (some 129) (val (binV Tryz.prog .gtr 3 false true (s.regs.get undefV 128) (.int .i64 (0)))) (Qo Tryz.prog hs ks k45_44 4 ⟨45, r⟩) := oR (by kernel_rfl)
theorem k45_44_4 : Qo Tryz.prog hs ks k45_44 4 ⟨45, r⟩ s = stepV s (some 130) (some { v := (s.regs.get undefV 129) }) (Qo Tryz.prog hs ks k45_44 5 ⟨45, r⟩) := oR (by kernel_rfl)
theorem k45_44_5 : Qo Tryz.prog hs ks k45_44 5 ⟨45, r⟩ s = if wantB (s.regs.get undefV 130) true = true then stepV s (some 131) (val (addrAdd (s.regs.get undefV 5) 0)) (Qo Tryz.prog hs ks k45_44 6 ⟨45, r⟩) else Qo Tryz.prog hs ks k45_44 6 ⟨45, r⟩ (skipS s (some 131)) := oI (by kernel_rfl)
theorem k45_44_6 : Qo Tryz.prog hs ks k45_44 6 ⟨45, r⟩ s = if wantB (s.regs.get undefV 130) true = true then stepV s (some 132) (xLoad Tryz.prog 3 s.h.get (s.regs.get undefV 131)) (Qo Tryz.prog hs ks k45_44 7 ⟨45, r⟩) else Qo Tryz.prog hs ks k45_44 7 ⟨45, r⟩ (skipS s (some 132)) := oI (by kernel_rfl)
theorem k45_44_7 : Qo Tryz.prog hs ks k45_44 7 ⟨45, r⟩ s = if wantB (s.regs.get undefV 130) true = true then stepV s (some 133) (some { v := (s.regs.get undefV 8) }) (Qo Tryz.prog hs ks k45_44 8 ⟨45, r⟩) else Qo Tryz.prog hs ks k45_44 8 ⟨45, r⟩ (skipS s (some 133)) := oI (by kernel_rfl)
theorem k45_44_8 : Qo Tryz.prog hs ks k45_44 8 ⟨45, r⟩ s = if wantB (s.regs.get undefV 130) true = true then stepV s (some 134) (val (binV Tryz.prog .leq 3 false false (s.regs.get undefV 132) (s.regs.get undefV 133))) (Qo Tryz.prog hs ks k45_44 9 ⟨45, r⟩) else Qo Tryz.prog hs ks k45_44 9 ⟨45, r⟩ (skipS s (some 134)) := oI (by kernel_rfl)
theorem k45_44_9 : Qo Tryz.prog hs ks k45_44 9 ⟨45, r⟩ s = stepV s (some 135) (xPick (s.regs.get undefV 130) (s.regs.get undefV 134) (.bool false)) (Qo Tryz.prog hs ks k45_44 10 ⟨45, r⟩) := oR (by kernel_rfl)
theorem k45_44_10 : Qo Tryz.prog hs ks k45_44 10 ⟨45, r⟩ s = some [(.normal, s)] := Qo_end (by kernel_rfl) s
noncomputable def k45_46 : Code := codeA k45_45
noncomputable def k45_47 : Code := codeB k45_45
theorem k45_45_c : Qc Tryz.prog hs ks ⟨45, r⟩ k45_45 s = condV (s.regs.get undefV 135) (Qc Tryz.prog hs ks ⟨45, r⟩ k45_46) (Qc Tryz.prog hs ks ⟨45, r⟩ k45_47) s := Qc_cond (t := 135) (a := k45_46) (b := k45_47) (by kernel_rfl) _ _
theorem k45_46_c : Qc Tryz.prog hs ks ⟨45, r⟩ k45_46 s = Qo Tryz.prog hs ks k45_46 0 ⟨45, r⟩ s := Qc_region (id := 18) (ops := regOps k45_46) (by kernel_rfl) (by kernel_rfl) s
theorem k45_46_0 : Qo Tryz.prog hs ks k45_46 0 ⟨45, r⟩ s = stepV s (some 136) (val (addrAdd (s.regs.get undefV 5) 0)) (Qo Tryz.prog hs ks k45_46 1 ⟨45, r⟩) := oR (by kernel_rfl)
theorem k45_46_1 : Qo Tryz.prog hs ks k45_46 1 ⟨45, r⟩ s = stepV s none (xStore Tryz.prog 3 s.h.get (s.regs.get undefV 136) (.int .i64 (0))) (Qo Tryz.prog hs ks k45_46 2 ⟨45, r⟩) := oR (by kernel_rfl)
theorem k45_46_2 : Qo Tryz.prog hs ks k45_46 2 ⟨45, r⟩ s = some [(.normal, s)] := Qo_end (by kernel_rfl) s
theorem k45_47_c : Qc Tryz.prog hs ks ⟨45, r⟩ k45_47 s = some [(.normal, s)] := Qc_skip (by kernel_rfl) _ _
noncomputable def k45_48 : Code := codeA k45_43
noncomputable def k45_49 : Code := codeB k45_43
theorem k45_43_c : Qc Tryz.prog hs ks ⟨45, r⟩ k45_43 s = thenV (Qc Tryz.prog hs ks ⟨45, r⟩ k45_48 s) (Qc Tryz.prog hs ks ⟨45, r⟩ k45_49) := Qc_seq (a := k45_48) (b := k45_49) (by kernel_rfl) _ _
theorem k45_48_c : Qc Tryz.prog hs ks ⟨45, r⟩ k45_48 s = Qo Tryz.prog hs ks k45_48 0 ⟨45, r⟩ s := Qc_region (id := 19) (ops := regOps k45_48) (by kernel_rfl) (by kernel_rfl) s
theorem k45_48_0 : Qo Tryz.prog hs ks k45_48 0 ⟨45, r⟩ s = stepV s (some 137) (xLoad Tryz.prog 37 s.h.get (s.regs.get undefV 5)) (Qo Tryz.prog hs ks k45_48 1 ⟨45, r⟩) := oR (by kernel_rfl)
theorem k45_48_1 : Qo Tryz.prog hs ks k45_48 1 ⟨45, r⟩ s = stepV s none (xStore Tryz.prog 37 s.h.get (s.regs.get undefV 4) (s.regs.get undefV 137)) (Qo Tryz.prog hs ks k45_48 2 ⟨45, r⟩) := oR (by kernel_rfl)
theorem k45_48_2 : Qo Tryz.prog hs ks k45_48 2 ⟨45, r⟩ s = some [(.normal, s)] := Qo_end (by kernel_rfl) s
theorem k45_49_c : Qc Tryz.prog hs ks ⟨45, r⟩ k45_49 s = some [(.ret, s)] := Qc_ret (by kernel_rfl) _ _
/-! function 70 -/
noncomputable def k70 : Code := Tryz.f70.body.getD .skip
theorem k70_fun (args : List V) (ha : args.length ≤ 7) (h : H) : (EV Tryz.prog hs ks).call 70 args h = endsV Tryz.prog hs ks Tryz.f70 (Qc Tryz.prog hs ks ⟨70, none⟩ k70 (S 7 (setF args 0 fun _ => undefV) [] h)) := EV_fun Tryz.func70 (by kernel_rfl) (by kernel_rfl) (by decide) ha h
theorem k70_ret (f : Nat → V) (h : H) : endsV Tryz.prog hs ks Tryz.f70 (some [(.ret, S 7 f [] h)]) = resV (resultVs Tryz.prog (S 7 f [] h) [.tmp 2]) h := ends_one (by kernel_rfl) (Or.inl rfl) _ _
theorem k70_nrm (f : Nat → V) (h : H) : endsV Tryz.prog hs ks Tryz.f70 (some [(.normal, S 7 f [] h)]) = resV (resultVs Tryz.prog (S 7 f [] h) [.tmp 2]) h := ends_one (by kernel_rfl) (Or.inr rfl) _ _
noncomputable def k70_0 : Code := codeA k70
noncomputable def k70_1 : Code := codeB k70
theorem k70_c : Qc Tryz.prog hs ks ⟨70, r⟩ k70 s = thenV (Qc Tryz.prog hs ks ⟨70, r⟩ k70_0 s) (Qc Tryz.prog hs ks ⟨70, r⟩ k70_1) := Qc_seq (a := k70_0) (b := k70_1) (by kernel_rfl) _ _
theorem k70_0_c : Qc Tryz.prog hs ks ⟨70, r⟩ k70_0 s = Qo Tryz.prog hs ks k70_0 0 ⟨70, r⟩ s := Qc_region (id := 0) (ops := regOps k70_0) (by kernel_rfl) (by kernel_rfl) s
theorem k70_0_0 : Qo Tryz.prog hs ks k70_0 0 ⟨70, r⟩ s = stepV s (some 1) (some { v := .ptr s.h.n 0, nw := [.row 0 (V.cells (s.regs.get undefV 0))] }) (Qo Tryz.prog hs ks k70_0 1 ⟨70, r⟩) := oR (by kernel_rfl)
theorem k70_0_1 : Qo Tryz.prog hs ks k70_0 1 ⟨70, r⟩ s = stepV s (some 2) (some { v := (.bool false) }) (Qo Tryz.prog hs ks k70_0 2 ⟨70, r⟩) := oR (by kernel_rfl)
theorem k70_0_2 : Qo Tryz.prog hs ks k70_0 2 ⟨70, r⟩ s = some [(.normal, s)] := Qo_end (by kernel_rfl) s
noncomputable def k70_2 : Code := codeA k70_1
noncomputable def k70_3 : Code := codeB k70_1
theorem k70_1_c : Qc Tryz.prog hs ks ⟨70, r⟩ k70_1 s = thenV (Qc Tryz.prog hs ks ⟨70, r⟩ k70_2 s) (Qc Tryz.prog hs ks ⟨70, r⟩ k70_3) := Qc_seq (a := k70_2) (b := k70_3) (by kernel_rfl) _ _
theorem k70_2_c : Qc Tryz.prog hs ks ⟨70, r⟩ k70_2 s = Qo Tryz.prog hs ks k70_2 0 ⟨70, r⟩ s := Qc_region (id := 1) (ops := regOps k70_2) (by kernel_rfl) (by kernel_rfl) s
theorem k70_2_0 : Qo Tryz.prog hs ks k70_2 0 ⟨70, r⟩ s = stepV s (some 3) (val (addrAdd (s.regs.get undefV 1) 1)) (Qo Tryz.prog hs ks k70_2 1 ⟨70, r⟩) := oR (by kernel_rfl)
theorem k70_2_1 : Qo Tryz.prog hs ks k70_2 1 ⟨70, r⟩ s = stepV s (some 4) (xLoad Tryz.prog 35 s.h.get (s.regs.get undefV 3)) (Qo Tryz.prog hs ks k70_2 2 ⟨70, r⟩) := oR (by kernel_rfl)
theorem k70_2_2 : Qo Tryz.prog hs ks k70_2 2 ⟨70, r⟩ s = stepV s (some 5) (some { v := .fn (.func 115) [] [(s.regs.get undefV 1)] }) (Qo Tryz.prog hs ks k70_2 3 ⟨70, r⟩) := oR (by kernel_rfl)
theorem k70_2_3 : Qo Tryz.prog hs ks k70_2 3 ⟨70, r⟩ s = thenC (some 6) s (callS Tryz.prog hs ks 107 [(s.regs.get undefV 4), (s.regs.get undefV 5)] s.h) (Qo Tryz.prog hs ks k70_2 4 ⟨70, r⟩) := cR (by kernel_rfl)
theorem k70_2_4 : Qo Tryz.prog hs ks k70_2 4 ⟨70, r⟩ s = stepV s (some 2) (some { v := (s.regs.get undefV 6) }) (Qo Tryz.prog hs ks k70_2 5 ⟨70, r⟩) := oR (by kernel_rfl)
theorem k70_2_5 : Qo Tryz.prog hs ks k70_2 5 ⟨70, r⟩ s = some [(.normal, s)] := Qo_end (by kernel_rfl) s
theorem k70_3_c : Qc Tryz.prog hs ks ⟨70, r⟩ k70_3 s = some [(.ret, s)] := Qc_ret (by kernel_rfl) _ _
/-! function 71 -/
noncomputable def k71 : Code := Tryz.f71.body.getD .skip
theorem k71_fun (args : List V) (ha : args.length ≤ 80) (h : H) : (EV Tryz.prog hs ks).call 71 args h = endsV Tryz.prog hs ks Tryz.f71 (Qc Tryz.prog hs ks ⟨71, none⟩ k71 (S 80 (setF args 0 fun _ => undefV) [] h)) := EV_fun Tryz.func71 (by kernel_rfl) (by kernel_rfl) (by decide) ha h
theorem k71_ret (f : Nat → V) (h : H) : endsV Tryz.prog hs ks Tryz.f71 (some [(.ret, S 80 f [] h)]) = resV (resultVs Tryz.prog (S 80 f [] h) []) h := ends_one (by kernel_rfl) (Or.inl rfl) _ _
theorem k71_nrm (f : Nat → V) (h : H) : endsV Tryz.prog hs ks Tryz.f71 (some [(.normal, S 80 f [] h)]) = resV (resultVs Tryz.prog (S 80 f [] h) []) h := ends_one (by kernel_rfl) (Or.inr rfl) _ _
noncomputable def k71_0 : Code := codeA k71
theorem k71_c : Qc Tryz.prog hs ks ⟨71, r⟩ k71 s = blockV 0 (Qc Tryz.prog hs ks ⟨71, r⟩ k71_0 s) := Qc_block (b := k71_0) (by kernel_rfl) _ _
noncomputable def k71_1 : Code := codeA k71_0
theorem k71_0_l : Qc Tryz.prog hs ks ⟨71, r⟩ k71_0 s = thenV (Qc Tryz.prog hs ks ⟨71, r⟩ k71_1 s) (Qc Tryz.prog hs ks ⟨71, r⟩ k71_0) := Qc_loop (b := k71_1) (by kernel_rfl) _ _
noncomputable def k71_2 : Code := codeA k71_1
noncomputable def k71_3 : Code := codeB k71_1
theorem k71_1_c : Qc Tryz.prog hs ks ⟨71, r⟩ k71_1 s = thenV (Qc Tryz.prog hs ks ⟨71, r⟩ k71_2 s) (Qc Tryz.prog hs ks ⟨71, r⟩ k71_3) := Qc_seq (a := k71_2) (b := k71_3) (by kernel_rfl) _ _
noncomputable def k71_4 : Code := codeA k71_2
noncomputable def k71_5 : Code := codeB k71_2
theorem k71_2_c : Qc Tryz.prog hs ks ⟨71, r⟩ k71_2 s = thenV (Qc Tryz.prog hs ks ⟨71, r⟩ k71_4 s) (Qc Tryz.prog hs ks ⟨71, r⟩ k71_5) := Qc_seq (a := k71_4) (b := k71_5) (by kernel_rfl) _ _
theorem k71_4_c : Qc Tryz.prog hs ks ⟨71, r⟩ k71_4 s = Qo Tryz.prog hs ks k71_4 0 ⟨71, r⟩ s := Qc_region (id := 0) (ops := regOps k71_4) (by kernel_rfl) (by kernel_rfl) s
theorem k71_4_0 : Qo Tryz.prog hs ks k71_4 0 ⟨71, r⟩ s = stepV s (some 5) (xLoad Tryz.prog 35 s.h.get (s.regs.get undefV 1)) (Qo Tryz.prog hs ks k71_4 1 ⟨71, r⟩) := oR (by kernel_rfl)
theorem k71_4_1 : Qo Tryz.prog hs ks k71_4 1 ⟨71, r⟩ s = stepV s (some 6) (builtinV Tryz.prog false s.h.get s.h.n .len [35] [(s.regs.get undefV 5)]) (Qo Tryz.prog hs ks k71_4 2 ⟨71, r⟩) := oR (by kernel_rfl)
theorem k71_4_2 : Qo Tryz.prog hs ks k71_4 2 ⟨71, r⟩ s = stepV s (some 7) (val (binV Tryz.prog .gtr 3 false true (s.regs.get undefV 6) (.int .i64 (0)))) (Qo Tryz.prog hs ks k71_4 3 ⟨71, r⟩) := oR (by kernel_rfl)
theorem k71_4_3 : Qo Tryz.prog hs ks k71_4 3 ⟨71, r⟩ s = stepV s (some 8) (some { v := (s.regs.get undefV 7) }) (Qo Tryz.prog hs ks k71_4 4 ⟨71, r⟩) := oR (by kernel_rfl)
theorem k71_4_4 : Qo Tryz.prog hs ks k71_4 4 ⟨71, r⟩ s = if wantB (s.regs.get undefV 8) false = true then stepV s (some 9) (xLoad Tryz.prog 35 s.h.get (s.regs.get undefV 2)) (Qo Tryz.prog hs ks k71_4 5 ⟨71, r⟩) else Qo Tryz.prog hs ks k71_4 5 ⟨71, r⟩ (skipS s (some 9)) := oI (by kernel_rfl)
theorem k71_4_5 : Qo Tryz.prog hs ks k71_4 5 ⟨71, r⟩ s = if wantB (s.regs.get undefV 8) false = true then stepV s (some 10) (builtinV Tryz.prog false s.h.get s.h.n .len [35] [(s.regs.get undefV 9)]) (Qo Tryz.prog hs ks k71_4 6 ⟨71, r⟩) else Qo Tryz.prog hs ks k71_4 6 ⟨71, r⟩ (skipS s (some 10)) := oI (by kernel_rfl)
theorem k71_4_6 : Qo Tryz.prog hs ks k71_4 6 ⟨71, r⟩ s = if wantB (s.regs.get undefV 8) false = true then stepV s (some 11) (val (binV Tryz.prog .gtr 3 false true (s.regs.get undefV 10) (.int .i64 (0)))) (Qo Tryz.prog hs ks k71_4 7 ⟨71, r⟩) else Qo Tryz.prog hs ks k71_4 7 ⟨71, r⟩ (skipS s (some 11)) := oI (by kernel_rfl)
theorem k71_4_7 : Qo Tryz.prog hs ks k71_4 7 ⟨71, r⟩ s = stepV s (some 12) (xPick (s.regs.get undefV 8) (.bool true) (s.regs.get undefV 11)) (Qo Tryz.prog hs ks k71_4 8 ⟨71, r⟩) := oR (by kernel_rfl)
theorem k71_4_8 : Qo Tryz.prog hs ks k71_4 8 ⟨71, r⟩ s = some [(.normal, s)] := Qo_end (by kernel_rfl) s
noncomputable def k71_6 : Code := codeA k71_5
noncomputable def k71_7 : Code := codeB k71_5
theorem k71_5_c : Qc Tryz.prog hs ks ⟨71, r⟩ k71_5 s = condV (s.regs.get undefV 12) (Qc Tryz.prog hs ks ⟨71, r⟩ k71_6) (Qc Tryz.prog hs ks ⟨71, r⟩ k71_7) s := Qc_cond (t := 12) (a := k71_6) (b := k71_7) (by kernel_rfl) _ _
theorem k71_6_c : Qc Tryz.prog hs ks ⟨71, r⟩ k71_6 s = some [(.normal, s)] := Qc_skip (by kernel_rfl) _ _
theorem k71_7_c : Qc Tryz.prog hs ks ⟨71, r⟩ k71_7 s = some [(.exit 0, s)] := Qc_exit (by kernel_rfl) _ _
noncomputable def k71_8 : Code := codeA k71_3
theorem k71_3_c : Qc Tryz.prog hs ks ⟨71, r⟩ k71_3 s = blockV 1 (Qc Tryz.prog hs ks ⟨71, r⟩ k71_8 s) := Qc_block (b := k71_8) (by kernel_rfl) _ _
noncomputable def k71_9 : Code := codeA k71_8
noncomputable def k71_10 : Code := codeB k71_8
theorem k71_8_c : Qc Tryz.prog hs ks ⟨71, r⟩ k71_8 s = thenV (Qc Tryz.prog hs ks ⟨71, r⟩ k71_9 s) (Qc Tryz.prog hs ks ⟨71, r⟩ k71_10) := Qc_seq (a := k71_9) (b := k71_10) (by kernel_rfl) _ _
theorem k71_9_c : Qc Tryz.prog hs ks ⟨71, r⟩ k71_9 s = Qo Tryz.prog hs ks k71_9 0 ⟨71, r⟩ s := Qc_region (id := 1) (ops := regOps k71_9) (by kernel_rfl) (by kernel_rfl) s
theorem k71_9_0 : Qo Tryz.prog hs ks k71_9 0 ⟨71, r⟩ s = stepV s (some 4) (some { v := .ptr s.h.n 0, nw := [.row 0 [.int .i64 (0), .int .i64 (0)]] }) (Qo Tryz.prog hs ks k71_9 1 ⟨71, r⟩) := oR (by kernel_rfl)
theorem k71_9_1 : Qo Tryz.prog hs ks k71_9 1 ⟨71, r⟩ s = some [(.normal, s)] := Qo_end (by kernel_rfl) s
noncomputable def k71_11 : Code := codeA k71_10
noncomputable def k71_12 : Code := codeB k71_10
theorem k71_10_c : Qc Tryz.prog hs ks ⟨71, r⟩ k71_10 s = thenV (Qc Tryz.prog hs ks ⟨71, r⟩ k71_11 s) (Qc Tryz.prog hs ks ⟨71, r⟩ k71_12) := Qc_seq (a := k71_11) (b := k71_12) (by kernel_rfl) _ _
noncomputable def k71_13 : Code := codeA k71_11
theorem k71_11_c : Qc Tryz.prog hs ks ⟨71, r⟩ k71_11 s = blockV 2 (Qc Tryz.prog hs ks ⟨71, r⟩ k71_13 s) := Qc_block (b := k71_13) (by kernel_rfl) _ _
noncomputable def k71_14 : Code := codeA k71_13
noncomputable def k71_15 : Code := codeB k71_13
theorem k71_13_c : Qc Tryz.prog hs ks ⟨71, r⟩ k71_13 s = thenV (Qc Tryz.prog hs ks ⟨71, r⟩ k71_14 s) (Qc Tryz.prog hs ks ⟨71, r⟩ k71_15) := Qc_seq (a := k71_14) (b := k71_15) (by kernel_rfl) _ _
noncomputable def k71_14_bef : List Nat := [0, 1, 3, 7, 15, 31, 63, 127, 255, 511, 1023, 2047, 255, 4351, 12543, 28927, 65535, 131071, 262143, 524287]
theorem k71_14_c : Qc Tryz.prog hs ks ⟨71, r⟩ k71_14 s = Qd Tryz.prog hs ks k71_14 k71_14_bef 0 ⟨71, r⟩ [] s := Qc_draw (id := 4) (ops := regOps k71_14) (by kernel_rfl) (by kernel_rfl) (by kernel_rfl) (by kernel_rfl) s
theorem k71_14_0 : Qd Tryz.prog hs ks k71_14 k71_14_bef 0 ⟨71, r⟩ dn s = stepD s (some 32) 0 k71_14_bef dn (xLoad Tryz.prog 35 s.h.get (s.regs.get undefV 2)) (Qd Tryz.prog hs ks k71_14 k71_14_bef 1 ⟨71, r⟩) := dR (by kernel_rfl)
theorem k71_14_1 : Qd Tryz.prog hs ks k71_14 k71_14_bef 1 ⟨71, r⟩ dn s = stepD s (some 33) 1 k71_14_bef dn (builtinV Tryz.prog false s.h.get s.h.n .len [35] [(s.regs.get undefV 32)]) (Qd Tryz.prog hs ks k71_14 k71_14_bef 2 ⟨71, r⟩) := dR (by kernel_rfl)
theorem k71_14_2 : Qd Tryz.prog hs ks k71_14 k71_14_bef 2 ⟨71, r⟩ dn s = stepD s (some 34) 2 k71_14_bef dn (val (binV Tryz.prog .eql 3 false true (s.regs.get undefV 33) (.int .i64 (0)))) (Qd Tryz.prog hs ks k71_14 k71_14_bef 3 ⟨71, r⟩) := dR (by kernel_rfl)
theorem k71_14_3 : Qd Tryz.prog hs ks k71_14 k71_14_bef 3 ⟨71, r⟩ dn s = stepD s (some 35) 3 k71_14_bef dn (some { v := (s.regs.get undefV 34) }) (Qd Tryz.prog hs ks k71_14 k71_14_bef 4 ⟨71, r⟩) := dR (by kernel_rfl)
theorem k71_14_4 : Qd Tryz.prog hs ks k71_14 k71_14_bef 4 ⟨71, r⟩ dn s = if wantB (s.regs.get undefV 35) false = true then stepD s (some 36) 4 k71_14_bef dn (xLoad Tryz.prog 35 s.h.get (s.regs.get undefV 1)) (Qd Tryz.prog hs ks k71_14 k71_14_bef 5 ⟨71, r⟩) else Qd Tryz.prog hs ks k71_14 k71_14_bef 5 ⟨71, r⟩ dn (skipS s (some 36)) := dI (by kernel_rfl)
theorem k71_14_5 : Qd Tryz.prog hs ks k71_14 k71_14_bef 5 ⟨71, r⟩ dn s = if wantB (s.regs.get undefV 35) false = true then stepD s (some 37) 5 k71_14_bef dn (builtinV Tryz.prog false s.h.get s.h.n .len [35] [(s.regs.get undefV 36)]) (Qd Tryz.prog hs ks k71_14 k71_14_bef 6 ⟨71, r⟩) else Qd Tryz.prog hs ks k71_14 k71_14_bef 6 ⟨71, r⟩ dn (skipS s (some 37)) := dI (by kernel_rfl)
theorem k71_14_6 : Qd Tryz.prog hs ks k71_14 k71_14_bef 6 ⟨71, r⟩ dn s = if wantB (s.regs.get undefV 35) false = true then stepD s (some 38) 6 k71_14_bef dn (val (binV Tryz.prog .gtr 3 false true (s.regs.get undefV 37) (.int .i64 (0)))) (Qd Tryz.prog hs ks k71_14 k71_14_bef 7 ⟨71, r⟩) else Qd Tryz.prog hs ks k71_14 k71_14_bef 7 ⟨71, r⟩ dn (skipS s (some 38)) := dI (by kernel_rfl)
theorem k71_14_7 : Qd Tryz.prog hs ks k71_14 k71_14_bef 7 ⟨71, r⟩ dn s = if wantB (s.regs.get undefV 35) false = true then stepD s (some 39) 7 k71_14_bef dn (some { v := (s.regs.get undefV 38) }) (Qd Tryz.prog hs ks k71_14 k71_14_bef 8 ⟨71, r⟩) else Qd Tryz.prog hs ks k71_14 k71_14_bef 8 ⟨71, r⟩ dn (skipS s (some 39)) := dI (by kernel_rfl)
theorem k71_14_8 : Qd Tryz.prog hs ks k71_14 k71_14_bef 8 ⟨71, r⟩ dn s = if wantB (s.regs.get undefV 39) true = true then stepD s (some 40) 8 k71_14_bef dn (xLoad Tryz.prog 35 s.h.get (s.regs.get undefV 1)) (Qd Tryz.prog hs ks k71_14 k71_14_bef 9 ⟨71, r⟩) else Qd Tryz.prog hs ks k71_14 k71_14_bef 9 ⟨71, r⟩ dn (skipS s (some 40)) := dI (by kernel_rfl)
theorem k71_14_9 : Qd Tryz.prog hs ks k71_14 k71_14_bef 9 ⟨71, r⟩ dn s = if wantB (s.regs.get undefV 39) true = true then stepD s (some 41) 9 k71_14_bef dn (val (indexAddr Tryz.prog 35 (s.regs.get undefV 40) (.int .i64 (0)))) (Qd Tryz.prog hs ks k71_14 k71_14_bef 10 ⟨71, r⟩) else Qd Tryz.prog hs ks k71_14 k71_14_bef 10 ⟨71, r⟩ dn (skipS s (some 41)) := dI (by kernel_rfl)
theorem k71_14_10 : Qd Tryz.prog hs ks k71_14 k71_14_bef 10 ⟨71, r⟩ dn s = if wantB (s.regs.get undefV 39) true = true then stepD s (some 42) 10 k71_14_bef dn (val (addrAdd (s.regs.get undefV 41) 0)) (Qd Tryz.prog hs ks k71_14 k71_14_bef 11 ⟨71, r⟩) else Qd Tryz.prog hs ks k71_14 k71_14_bef 11 ⟨71, r⟩ dn (skipS s (some 42)) := dI (by kernel_rfl)
theorem k71_14_11 : Qd Tryz.prog hs ks k71_14 k71_14_bef 11 ⟨71, r⟩ dn s = if wantB (s.regs.get undefV 39) true = true then stepD s (some 43) 11 k71_14_bef dn (xLoad Tryz.prog 3 s.h.get (s.regs.get undefV 42)) (Qd Tryz.prog hs ks k71_14 k71_14_bef 12 ⟨71, r⟩) else Qd Tryz.prog hs ks k71_14 k71_14_bef 12 ⟨71, r⟩ dn (skipS s (some 43)) := dI (by kernel_rfl)
theorem k71_14_12 : Qd Tryz.prog hs ks k71_14 k71_14_bef 12 ⟨71, r⟩ dn s = if wantB (s.regs.get undefV 39) true = true then stepD s (some 44) 12 k71_14_bef dn (xLoad Tryz.prog 35 s.h.get (s.regs.get undefV 2)) (Qd Tryz.prog hs ks k71_14 k71_14_bef 13 ⟨71, r⟩) else Qd Tryz.prog hs ks k71_14 k71_14_bef 13 ⟨71, r⟩ dn (skipS s (some 44)) := dI (by kernel_rfl)
theorem k71_14_13 : Qd Tryz.prog hs ks k71_14 k71_14_bef 13 ⟨71, r⟩ dn s = if wantB (s.regs.get undefV 39) true = true then stepD s (some 45) 13 k71_14_bef dn (val (indexAddr Tryz.prog 35 (s.regs.get undefV 44) (.int .i64 (0)))) (Qd Tryz.prog hs ks k71_14 k71_14_bef 14 ⟨71, r⟩) else Qd Tryz.prog hs ks k71_14 k71_14_bef 14 ⟨71, r⟩ dn (skipS s (some 45)) := dI (by kernel_rfl)
theorem k71_14_14 : Qd Tryz.prog hs ks k71_14 k71_14_bef 14 ⟨71, r⟩ dn s = if wantB (s.regs.get undefV 39) true = true then stepD s (some 46) 14 k71_14_bef dn (val (addrAdd (s.regs.get undefV 45) 0)) (Qd Tryz.prog hs ks k71_14 k71_14_bef 15 ⟨71, r⟩) else Qd Tryz.prog hs ks k71_14 k71_14_bef 15 ⟨71, r⟩ dn (skipS s (some 46)) := dI (by kernel_rfl)
theorem k71_14_15 : Qd Tryz.prog hs ks k71_14 k71_14_bef 15 ⟨71, r⟩ dn s = if wantB (s.regs.get undefV 39) true = true then stepD s (some 47) 15 k71_14_bef dn (xLoad Tryz.prog 3 s.h.get (s.regs.get undefV 46)) (Qd Tryz.prog hs ks k71_14 k71_14_bef 16 ⟨71, r⟩) else Qd Tryz.prog hs ks k71_14 k71_14_bef 16 ⟨71, r⟩ dn (skipS s (some 47)) := dI (by kernel_rfl)
theorem k71_14_16 : Qd Tryz.prog hs ks k71_14 k71_14_bef 16 ⟨71, r⟩ dn s = if wantB (s.regs.get undefV 39) true = true then stepD s (some 48) 16 k71_14_bef dn (val (binV Tryz.prog .lss 3 false false (s.regs.get undefV 43) (s.regs.get undefV 47))) (Qd Tryz.prog hs ks k71_14 k71_14_bef 17 ⟨71, r⟩) else Qd Tryz.prog hs ks k71_14 k71_14_bef 17 ⟨71, r⟩ dn (skipS s (some 48)) := dI (by kernel_rfl)
theorem k71_14_17 : Qd Tryz.prog hs ks k71_14 k71_14_bef 17 ⟨71, r⟩ dn s = if wantB (s.regs.get undefV 35) false = true then stepD s (some 49) 17 k71_14_bef dn (xPick (s.regs.get undefV 39) (s.regs.get undefV 48) (.bool false)) (Qd Tryz.prog hs ks k71_14 k71_14_bef 18 ⟨71, r⟩) else Qd Tryz.prog hs ks k71_14 k71_14_bef 18 ⟨71, r⟩ dn (skipS s (some 49)) := dI (by kernel_rfl)
theorem k71_14_18 : Qd Tryz.prog hs ks k71_14 k71_14_bef 18 ⟨71, r⟩ dn s = stepD s (some 50) 18 k71_14_bef dn (xPick (s.regs.get undefV 35) (.bool true) (s.regs.get undefV 49)) (Qd Tryz.prog hs ks k71_14 k71_14_bef 19 ⟨71, r⟩) := dR (by kernel_rfl)
theorem k71_14_19 : Qd Tryz.prog hs ks k71_14 k71_14_bef 19 ⟨71, r⟩ dn s = stepD s (some 31) 19 k71_14_bef dn (some { v := (s.regs.get undefV 50) }) (Qd Tryz.prog hs ks k71_14 k71_14_bef 20 ⟨71, r⟩) := dR (by kernel_rfl)
theorem k71_14_20 : Qd Tryz.prog hs ks k71_14 k71_14_bef 20 ⟨71, r⟩ dn s = some [(.normal, s)] := Qd_end (by kernel_rfl) dn s
noncomputable def k71_16 : Code := codeA k71_15
noncomputable def k71_17 : Code := codeB k71_15
theorem k71_15_c : Qc Tryz.prog hs ks ⟨71, r⟩ k71_15 s = condV (s.regs.get undefV 31) (Qc Tryz.prog hs ks ⟨71, r⟩ k71_16) (Qc Tryz.prog hs ks ⟨71, r⟩ k71_17) s := Qc_cond (t := 31) (a := k71_16) (b := k71_17) (by kernel_rfl) _ _
noncomputable def k71_16_bef : List Nat := [0, 1, 3, 0, 8, 7, 63]
theorem k71_16_c : Qc Tryz.prog hs ks ⟨71, r⟩ k71_16 s = Qd Tryz.prog hs ks k71_16 k71_16_bef 0 ⟨71, r⟩ [] s := Qc_draw (id := 5) (ops := regOps k71_16) (by kernel_rfl) (by kernel_rfl) (by kernel_rfl) (by kernel_rfl) s
theorem k71_16_0 : Qd Tryz.prog hs ks k71_16 k71_16_bef 0 ⟨71, r⟩ dn s = stepD s (some 51) 0 k71_16_bef dn (xLoad Tryz.prog 35 s.h.get (s.regs.get undefV 1)) (Qd Tryz.prog hs ks k71_16 k71_16_bef 1 ⟨71, r⟩) := dR (by kernel_rfl)
theorem k71_16_1 : Qd Tryz.prog hs ks k71_16 k71_16_bef 1 ⟨71, r⟩ dn s = stepD s (some 52) 1 k71_16_bef dn (val (indexAddr Tryz.prog 35 (s.regs.get undefV 51) (.int .i64 (0)))) (Qd Tryz.prog hs ks k71_16 k71_16_bef 2 ⟨71, r⟩) := dR (by kernel_rfl)
theorem k71_16_2 : Qd Tryz.prog hs ks k71_16 k71_16_bef 2 ⟨71, r⟩ dn s = stepD s (some 53) 2 k71_16_bef dn (xLoad Tryz.prog 74 s.h.get (s.regs.get undefV 52)) (Qd Tryz.prog hs ks k71_16 k71_16_bef 3 ⟨71, r⟩) := dR (by kernel_rfl)
theorem k71_16_3 : Qd Tryz.prog hs ks k71_16 k71_16_bef 3 ⟨71, r⟩ dn s = stepD s (some 54) 3 k71_16_bef dn (xLoad Tryz.prog 35 s.h.get (s.regs.get undefV 1)) (Qd Tryz.prog hs ks k71_16 k71_16_bef 4 ⟨71, r⟩) := dR (by kernel_rfl)
theorem k71_16_4 : Qd Tryz.prog hs ks k71_16 k71_16_bef 4 ⟨71, r⟩ dn s = stepD s (some 55) 4 k71_16_bef dn (val (sliceV Tryz.prog 35 (s.regs.get undefV 54) (some (.int .i64 (1))) none none)) (Qd Tryz.prog hs ks k71_16 k71_16_bef 5 ⟨71, r⟩) := dR (by kernel_rfl)
theorem k71_16_5 : Qd Tryz.prog hs ks k71_16 k71_16_bef 5 ⟨71, r⟩ dn s = stepD s none 5 k71_16_bef dn (xStore Tryz.prog 74 s.h.get (s.regs.get undefV 4) (s.regs.get undefV 53)) (Qd Tryz.prog hs ks k71_16 k71_16_bef 6 ⟨71, r⟩) := dR (by kernel_rfl)
theorem k71_16_6 : Qd Tryz.prog hs ks k71_16 k71_16_bef 6 ⟨71, r⟩ dn s = stepD s none 6 k71_16_bef dn (xStore Tryz.prog 35 s.h.get (s.regs.get undefV 1) (s.regs.get undefV 55)) (Qd Tryz.prog hs ks k71_16 k71_16_bef 7 ⟨71, r⟩) := dR (by kernel_rfl)
theorem k71_16_7 : Qd Tryz.prog hs ks k71_16 k71_16_bef 7 ⟨71, r⟩ dn s = some [(.normal, s)] := Qd_end (by kernel_rfl) dn s
noncomputable def k71_18 : Code := codeA k71_17
noncomputable def k71_19 : Code := codeB k71_17
theorem k71_17_c : Qc Tryz.prog hs ks ⟨71, r⟩ k71_17 s = thenV (Qc Tryz.prog hs ks ⟨71, r⟩ k71_18 s) (Qc Tryz.prog hs ks ⟨71, r⟩ k71_19) := Qc_seq (a := k71_18) (b := k71_19) (by kernel_rfl) _ _
noncomputable def k71_18_bef : List Nat := [0, 1, 3, 7, 15, 31, 63, 127, 15, 271, 783, 1807, 4095, 8191, 16383]
theorem k71_18_c : Qc Tryz.prog hs ks ⟨71, r⟩ k71_18 s = Qd Tryz.prog hs ks k71_18 k71_18_bef 0 ⟨71, r⟩ [] s := Qc_draw (id := 6) (ops := regOps k71_18) (by kernel_rfl) (by kernel_rfl) (by kernel_rfl) (by kernel_rfl) s
theorem k71_18_0 : Qd Tryz.prog hs ks k71_18 k71_18_bef 0 ⟨71, r⟩ dn s = stepD s (some 57) 0 k71_18_bef dn (xLoad Tryz.prog 35 s.h.get (s.regs.get undefV 1)) (Qd Tryz.prog hs ks k71_18 k71_18_bef 1 ⟨71, r⟩) := dR (by kernel_rfl)
theorem k71_18_1 : Qd Tryz.prog hs ks k71_18 k71_18_bef 1 ⟨71, r⟩ dn s = stepD s (some 58) 1 k71_18_bef dn (builtinV Tryz.prog false s.h.get s.h.n .len [35] [(s.regs.get undefV 57)]) (Qd Tryz.prog hs ks k71_18 k71_18_bef 2 ⟨71, r⟩) := dR (by kernel_rfl)
theorem k71_18_2 : Qd Tryz.prog hs ks k71_18 k71_18_bef 2 ⟨71, r⟩ dn s = stepD s (some 59) 2 k71_18_bef dn (val (binV Tryz.prog .eql 3 false true (s.regs.get undefV 58) (.int .i64 (0)))) (Qd Tryz.prog hs ks k71_18 k71_18_bef 3 ⟨71, r⟩) := dR (by kernel_rfl)
theorem k71_18_3 : Qd Tryz.prog hs ks k71_18 k71_18_bef 3 ⟨71, r⟩ dn s = stepD s (some 60) 3 k71_18_bef dn (some { v := (s.regs.get undefV 59) }) (Qd Tryz.prog hs ks k71_18 k71_18_bef 4 ⟨71, r⟩) := dR (by kernel_rfl)
theorem k71_18_4 : Qd Tryz.prog hs ks k71_18 k71_18_bef 4 ⟨71, r⟩ dn s = if wantB (s.regs.get undefV 60) false = true then stepD s (some 61) 4 k71_18_bef dn (xLoad Tryz.prog 35 s.h.get (s.regs.get undefV 2)) (Qd Tryz.prog hs ks k71_18 k71_18_bef 5 ⟨71, r⟩) else Qd Tryz.prog hs ks k71_18 k71_18_bef 5 ⟨71, r⟩ dn (skipS s (some 61)) := dI (by kernel_rfl)
theorem k71_18_5 : Qd Tryz.prog hs ks k71_18 k71_18_bef 5 ⟨71, r⟩ dn s = if wantB (s.regs.get undefV 60) false = true then stepD s (some 62) 5 k71_18_bef dn (val (indexAddr Tryz.prog 35 (s.regs.get undefV 61) (.int .i64 (0)))) (Qd Tryz.prog hs ks k71_18 k71_18_bef 6 ⟨71, r⟩) else Qd Tryz.prog hs ks k71_18 k71_18_bef 6 ⟨71, r⟩ dn (skipS s (some 62)) := dI (by kernel_rfl)
theorem k71_18_6 : Qd Tryz.prog hs ks k71_18 k71_18_bef 6 ⟨71, r⟩ dn s = if wantB (s.regs.get undefV 60) false = true then stepD s (some 63) 6 k71_18_bef dn (val (addrAdd (s.regs.get undefV 62) 0)) (Qd Tryz.prog hs ks k71_18 k71_18_bef 7 ⟨71, r⟩) else Qd Tryz.prog hs ks k71_18 k71_18_bef 7 ⟨71, r⟩ dn (skipS s (some 63)) := dI (by kernel_rfl)
theorem k71_18_7 : Qd Tryz.prog hs ks k71_18 k71_18_bef 7 ⟨71, r⟩ dn s = if wantB (s.regs.get undefV 60) false = true then stepD s (some 64) 7 k71_18_bef dn (xLoad Tryz.prog 3 s.h.get (s.regs.get undefV 63)) (Qd Tryz.prog hs ks k71_18 k71_18_bef 8 ⟨71, r⟩) else Qd Tryz.prog hs ks k71_18 k71_18_bef 8 ⟨71, r⟩ dn (skipS s (some 64)) := dI (by kernel_rfl)
theorem k71_18_8 : Qd Tryz.prog hs ks k71_18 k71_18_bef 8 ⟨71, r⟩ dn s = if wantB (s.regs.get undefV 60) false = true then stepD s (some 65) 8 k71_18_bef dn (xLoad Tryz.prog 35 s.h.get (s.regs.get undefV 1)) (Qd Tryz.prog hs ks k71_18 k71_18_bef 9 ⟨71, r⟩) else Qd Tryz.prog hs ks k71_18 k71_18_bef 9 ⟨71, r⟩ dn (skipS s (some 65)) := dI (by kernel_rfl)
theorem k71_18_9 : Qd Tryz.prog hs ks k71_18 k71_18_bef 9 ⟨71, r⟩ dn s = if wantB (s.regs.get undefV 60) false = true then stepD s (some 66) 9 k71_18_bef dn (val (indexAddr Tryz.prog 35 (s.regs.get undefV 65) (.int .i64 (0)))) (Qd Tryz.prog hs ks k71_18 k71_18_bef 10 ⟨71, r⟩) else Qd Tryz.prog hs ks k71_18 k71_18_bef 10 ⟨71, r⟩ dn (skipS s (some 66)) := dI (by kernel_rfl)
theorem k71_18_10 : Qd Tryz.prog hs ks k71_18 k71_18_bef 10 ⟨71, r⟩ dn s = if wantB (s.regs.get undefV 60) false = true then stepD s (some 67) 10 k71_18_bef dn (val (addrAdd (s.regs.get undefV 66) 0)) (Qd Tryz.prog hs ks k71_18 k71_18_bef 11 ⟨71, r⟩) else Qd Tryz.prog hs ks k71_18 k71_18_bef 11 ⟨71, r⟩ dn (skipS s (some 67)) := dI (by kernel_rfl)
theorem k71_18_11 : Qd Tryz.prog hs ks k71_18 k71_18_bef 11 ⟨71, r⟩ dn s = if wantB (s.regs.get undefV 60) false = true then stepD s (some 68) 11 k71_18_bef dn (xLoad Tryz.prog 3 s.h.get (s.regs.get undefV 67)) (Qd Tryz.prog hs ks k71_18 k71_18_bef 12 ⟨71, r⟩) else Qd Tryz.prog hs ks k71_18 k71_18_bef 12 ⟨71, r⟩ dn (skipS s (some 68)) := dI (by kernel_rfl)
theorem k71_18_12 : Qd Tryz.prog hs ks k71_18 k71_18_bef 12 ⟨71, r⟩ dn s = if wantB (s.regs.get undefV 60) false = true then stepD s (some 69) 12 k71_18_bef dn (val (binV Tryz.prog .lss 3 false false (s.regs.get undefV 64) (s.regs.get undefV 68))) (Qd Tryz.prog hs ks k71_18 k71_18_bef 13 ⟨71, r⟩) else Qd Tryz.prog hs ks k71_18 k71_18_bef 13 ⟨71, r⟩ dn (skipS s (some 69)) := dI (by kernel_rfl)
theorem k71_18_13 : Qd Tryz.prog hs ks k71_18 k71_18_bef 13 ⟨71, r⟩ dn s = stepD s (some 70) 13 k71_18_bef dn (xPick (s.regs.get undefV 60) (.bool true) (s.regs.get undefV 69)) (Qd Tryz.prog hs ks k71_18 k71_18_bef 14 ⟨71, r⟩) := dR (by kernel_rfl)
theorem k71_18_14 : Qd Tryz.prog hs ks k71_18 k71_18_bef 14 ⟨71, r⟩ dn s = stepD s (some 56) 14 k71_18_bef dn (some { v := (s.regs.get undefV 70) }) (Qd Tryz.prog hs ks k71_18 k71_18_bef 15 ⟨71, r⟩) := dR (by kernel_rfl)
theorem k71_18_15 : Qd Tryz.prog hs ks k71_18 k71_18_bef 15 ⟨71, r⟩ dn s = some [(.normal, s)] := Qd_end (by kernel_rfl) dn s
noncomputable def k71_20 : Code := codeA k71_19
noncomputable def k71_21 : Code := codeB k71_19
theorem k71_19_c : Qc Tryz.prog hs ks ⟨71, r⟩ k71_19 s = condV (s.regs.get undefV 56) (Qc Tryz.prog hs ks ⟨71, r⟩ k71_20) (Qc Tryz.prog hs ks ⟨71, r⟩ k71_21) s := Qc_cond (t := 56) (a := k71_20) (b := k71_21) (by kernel_rfl) _ _
noncomputable def k71_20_bef : List Nat := [0, 1, 3, 0, 8, 7, 63]
theorem k71_20_c : Qc Tryz.prog hs ks ⟨71, r⟩ k71_20 s = Qd Tryz.prog hs ks k71_20 k71_20_bef 0 ⟨71, r⟩ [] s := Qc_draw (id := 7) (ops := regOps k71_20) (by kernel_rfl) (by kernel_rfl) (by kernel_rfl) (by kernel_rfl) s
theorem k71_20_0 : Qd Tryz.prog hs ks k71_20 k71_20_bef 0 ⟨71, r⟩ dn s = stepD s (some 71) 0 k71_20_bef dn (xLoad Tryz.prog 35 s.h.get (s.regs.get undefV 2)) (Qd Tryz.prog hs ks k71_20 k71_20_bef 1 ⟨71, r⟩) := dR (by kernel_rfl)
theorem k71_20_1 : Qd Tryz.prog hs ks k71_20 k71_20_bef 1 ⟨71, r⟩ dn s = stepD s (some 72) 1 k71_20_bef dn (val (indexAddr Tryz.prog 35 (s.regs.get undefV 71) (.int .i64 (0)))) (Qd Tryz.prog hs ks k71_20 k71_20_bef 2 ⟨71, r⟩) := dR (by kernel_rfl)
theorem k71_20_2 : Qd Tryz.prog hs ks k71_20 k71_20_bef 2 ⟨71, r⟩ dn s = stepD s (some 73) 2 k71_20_bef dn (xLoad Tryz.prog 74 s.h.get (s.regs.get undefV 72)) (Qd Tryz.prog hs ks k71_20 k71_20_bef 3 ⟨71, r⟩) := dR (by kernel_rfl)
theorem k71_20_3 : Qd Tryz.prog hs ks k71_20 k71_20_bef 3 ⟨71, r⟩ dn s = stepD s (some 74) 3 k71_20_bef dn (xLoad Tryz.prog 35 s.h.get (s.regs.get undefV 2)) (Qd Tryz.prog hs ks k71_20 k71_20_bef 4 ⟨71, r⟩) := dR (by kernel_rfl)
theorem k71_20_4 : Qd Tryz.prog hs ks k71_20 k71_20_bef 4 ⟨71, r⟩ dn s = stepD s (some 75) 4 k71_20_bef dn (val (sliceV Tryz.prog 35 (s.regs.get undefV 74) (some (.int .i64 (1))) none none)) (Qd Tryz.prog hs ks k71_20 k71_20_bef 5 ⟨71, r⟩) := dR (by kernel_rfl)
theorem k71_20_5 : Qd Tryz.prog hs ks k71_20 k71_20_bef 5 ⟨71, r⟩ dn s = stepD s none 5 k71_20_bef dn (xStore Tryz.prog 74 s.h.get (s.regs.get undefV 4) (s.regs.get undefV 73)) (Qd Tryz.prog hs ks k71_20 k71_20_bef 6 ⟨71, r⟩) := dR (by kernel_rfl)
theorem k71_20_6 : Qd Tryz.prog hs ks k71_20 k71_20_bef 6 ⟨71, r⟩ dn s = stepD s none 6 k71_20_bef dn (xStore Tryz.prog 35 s.h.get (s.regs.get undefV 2) (s.regs.get undefV 75)) (Qd Tryz.prog hs ks k71_20 k71_20_bef 7 ⟨71, r⟩) := dR (by kernel_rfl)
theorem k71_20_7 : Qd Tryz.prog hs ks k71_20 k71_20_bef 7 ⟨71, r⟩ dn s = some [(.normal, s)] := Qd_end (by kernel_rfl) dn s
noncomputable def k71_22 : Code := codeA k71_21
noncomputable def k71_23 : Code := codeB k71_21
theorem k71_21_c : Qc Tryz.prog hs ks ⟨71, r⟩ k71_21 s = thenV (Qc Tryz.prog hs ks ⟨71, r⟩ k71_22 s) (Qc Tryz.prog hs ks ⟨71, r⟩ k71_23) := Qc_seq (a := k71_22) (b := k71_23) (by kernel_rfl) _ _
noncomputable def k71_22_bef : List Nat := [0, 1, 3, 7, 0, 16, 48, 112, 0, 256, 768, 1792, 4080, 8191, 16383]
theorem k71_22_c : Qc Tryz.prog hs ks ⟨71, r⟩ k71_22 s = Qd Tryz.prog hs ks k71_22 k71_22_bef 0 ⟨71, r⟩ [] s := Qc_draw (id := 2) (ops := regOps k71_22) (by kernel_rfl) (by kernel_rfl) (by kernel_rfl) (by kernel_rfl) s
theorem k71_22_0 : Qd Tryz.prog hs ks k71_22 k71_22_bef 0 ⟨71, r⟩ dn s = stepD s (some 13) 0 k71_22_bef dn (xLoad Tryz.prog 35 s.h.get (s.regs.get undefV 1)) (Qd Tryz.prog hs ks k71_22 k71_22_bef 1 ⟨71, r⟩) := dR (by kernel_rfl)
theorem k71_22_1 : Qd Tryz.prog hs ks k71_22 k71_22_bef 1 ⟨71, r⟩ dn s = stepD s (some 14) 1 k71_22_bef dn (val (indexAddr Tryz.prog 35 (s.regs.get undefV 13) (.int .i64 (0)))) (Qd Tryz.prog hs ks k71_22 k71_22_bef 2 ⟨71, r⟩) := dR (by kernel_rfl)
theorem k71_22_2 : Qd Tryz.prog hs ks k71_22 k71_22_bef 2 ⟨71, r⟩ dn s = stepD s (some 15) 2 k71_22_bef dn (val (addrAdd (s.regs.get undefV 14) 0)) (Qd Tryz.prog hs ks k71_22 k71_22_bef 3 ⟨71, r⟩) := dR (by kernel_rfl)
theorem k71_22_3 : Qd Tryz.prog hs ks k71_22 k71_22_bef 3 ⟨71, r⟩ dn s = stepD s (some 16) 3 k71_22_bef dn (xLoad Tryz.prog 3 s.h.get (s.regs.get undefV 15)) (Qd Tryz.prog hs ks k71_22 k71_22_bef 4 ⟨71, r⟩) := dR (by kernel_rfl)
theorem k71_22_4 : Qd Tryz.prog hs ks k71_22 k71_22_bef 4 ⟨71, r⟩ dn s = stepD s (some 17) 4 k71_22_bef dn (xLoad Tryz.prog 35 s.h.get (s.regs.get undefV 1)) (Qd Tryz.prog hs ks k71_22 k71_22_bef 5 ⟨71, r⟩) := dR (by kernel_rfl)
theorem k71_22_5 : Qd Tryz.prog hs ks k71_22 k71_22_bef 5 ⟨71, r⟩ dn s = stepD s (some 18) 5 k71_22_bef dn (val (indexAddr Tryz.prog 35 (s.regs.get undefV 17) (.int .i64 (0)))) (Qd Tryz.prog hs ks k71_22 k71_22_bef 6 ⟨71, r⟩) := dR (by kernel_rfl)
theorem k71_22_6 : Qd Tryz.prog hs ks k71_22 k71_22_bef 6 ⟨71, r⟩ dn s = stepD s (some 19) 6 k71_22_bef dn (val (addrAdd (s.regs.get undefV 18) 1)) (Qd Tryz.prog hs ks k71_22 k71_22_bef 7 ⟨71, r⟩) := dR (by kernel_rfl)
theorem k71_22_7 : Qd Tryz.prog hs ks k71_22 k71_22_bef 7 ⟨71, r⟩ dn s = stepD s (some 20) 7 k71_22_bef dn (xLoad Tryz.prog 3 s.h.get (s.regs.get undefV 19)) (Qd Tryz.prog hs ks k71_22 k71_22_bef 8 ⟨71, r⟩) := dR (by kernel_rfl)
theorem k71_22_8 : Qd Tryz.prog hs ks k71_22 k71_22_bef 8 ⟨71, r⟩ dn s = stepD s (some 21) 8 k71_22_bef dn (xLoad Tryz.prog 35 s.h.get (s.regs.get undefV 2)) (Qd Tryz.prog hs ks k71_22 k71_22_bef 9 ⟨71, r⟩) := dR (by kernel_rfl)
theorem k71_22_9 : Qd Tryz.prog hs ks k71_22 k71_22_bef 9 ⟨71, r⟩ dn s = stepD s (some 22) 9 k71_22_bef dn (val (indexAddr Tryz.prog 35 (s.regs.get undefV 21) (.int .i64 (0)))) (Qd Tryz.prog hs ks k71_22 k71_22_bef 10 ⟨71, r⟩) := dR (by kernel_rfl)
theorem k71_22_10 : Qd Tryz.prog hs ks k71_22 k71_22_bef 10 ⟨71, r⟩ dn s = stepD s (some 23) 10 k71_22_bef dn (val (addrAdd (s.regs.get undefV 22) 1)) (Qd Tryz.prog hs ks k71_22 k71_22_bef 11 ⟨71, r⟩) := dR (by kernel_rfl)
theorem k71_22_11 : Qd Tryz.prog hs ks k71_22 k71_22_bef 11 ⟨71, r⟩ dn s = stepD s (some 24) 11 k71_22_bef dn (xLoad Tryz.prog 3 s.h.get (s.regs.get undefV 23)) (Qd Tryz.prog hs ks k71_22 k71_22_bef 12 ⟨71, r⟩) := dR (by kernel_rfl)
theorem k71_22_12 : Qd Tryz.prog hs ks k71_22 k71_22_bef 12 ⟨71, r⟩ dn s = stepD s (some 25) 12 k71_22_bef dn (builtinV Tryz.prog false s.h.get s.h.n .max [3, 3] [(s.regs.get undefV 20), (s.regs.get undefV 24)]) (Qd Tryz.prog hs ks k71_22 k71_22_bef 13 ⟨71, r⟩) := dR (by kernel_rfl)
theorem k71_22_13 : Qd Tryz.prog hs ks k71_22 k71_22_bef 13 ⟨71, r⟩ dn s = stepD s (some 26) 13 k71_22_bef dn (val (build Tryz.prog 74 [(0, (s.regs.get undefV 16)), (1, (s.regs.get undefV 25))])) (Qd Tryz.prog hs ks k71_22 k71_22_bef 14 ⟨71, r⟩) := dR (by kernel_rfl)
theorem k71_22_14 : Qd Tryz.prog hs ks k71_22 k71_22_bef 14 ⟨71, r⟩ dn s = stepD s none 14 k71_22_bef dn (xStore Tryz.prog 74 s.h.get (s.regs.get undefV 4) (s.regs.get undefV 26)) (Qd Tryz.prog hs ks k71_22 k71_22_bef 15 ⟨71, r⟩) := dR (by kernel_rfl)
theorem k71_22_15 : Qd Tryz.prog hs ks k71_22 k71_22_bef 15 ⟨71, r⟩ dn s = some [(.normal, s)] := Qd_end (by kernel_rfl) dn s
noncomputable def k71_23_bef : List Nat := [0, 1, 0, 4, 3, 31]
theorem k71_23_c : Qc Tryz.prog hs ks ⟨71, r⟩ k71_23 s = Qd Tryz.prog hs ks k71_23 k71_23_bef 0 ⟨71, r⟩ [] s := Qc_draw (id := 3) (ops := regOps k71_23) (by kernel_rfl) (by kernel_rfl) (by kernel_rfl) (by kernel_rfl) s
theorem k71_23_0 : Qd Tryz.prog hs ks k71_23 k71_23_bef 0 ⟨71, r⟩ dn s = stepD s (some 27) 0 k71_23_bef dn (xLoad Tryz.prog 35 s.h.get (s.regs.get undefV 1)) (Qd Tryz.prog hs ks k71_23 k71_23_bef 1 ⟨71, r⟩) := dR (by kernel_rfl)
theorem k71_23_1 : Qd Tryz.prog hs ks k71_23 k71_23_bef 1 ⟨71, r⟩ dn s = stepD s (some 28) 1 k71_23_bef dn (val (sliceV Tryz.prog 35 (s.regs.get undefV 27) (some (.int .i64 (1))) none none)) (Qd Tryz.prog hs ks k71_23 k71_23_bef 2 ⟨71, r⟩) := dR (by kernel_rfl)
theorem k71_23_2 : Qd Tryz.prog hs ks k71_23 k71_23_bef 2 ⟨71, r⟩ dn s = stepD s (some 29) 2 k71_23_bef dn (xLoad Tryz.prog 35 s.h.get (s.regs.get undefV 2)) (Qd Tryz.prog hs ks k71_23 k71_23_bef 3 ⟨71, r⟩) := dR (by kernel_rfl)
theorem k71_23_3 : Qd Tryz.prog hs ks k71_23 k71_23_bef 3 ⟨71, r⟩ dn s = stepD s (some 30) 3 k71_23_bef dn (val (sliceV Tryz.prog 35 (s.regs.get undefV 29) (some (.int .i64 (1))) none none)) (Qd Tryz.prog hs ks k71_23 k71_23_bef 4 ⟨71, r⟩) := dR (by kernel_rfl)
theorem k71_23_4 : Qd Tryz.prog hs ks k71_23 k71_23_bef 4 ⟨71, r⟩ dn s = stepD s none 4 k71_23_bef dn (xStore Tryz.prog 35 s.h.get (s.regs.get undefV 1) (s.regs.get undefV 28)) (Qd Tryz.prog hs ks k71_23 k71_23_bef 5 ⟨71, r⟩) := dR (by kernel_rfl)
theorem k71_23_5 : Qd Tryz.prog hs ks k71_23 k71_23_bef 5 ⟨71, r⟩ dn s = stepD s none 5 k71_23_bef dn (xStore Tryz.prog 35 s.h.get (s.regs.get undefV 2) (s.regs.get undefV 30)) (Qd Tryz.prog hs ks k71_23 k71_23_bef 6 ⟨71, r⟩) := dR (by kernel_rfl)
theorem k71_23_6 : Qd Tryz.prog hs ks k71_23 k71_23_bef 6 ⟨71, r⟩ dn s = some [(.normal, s)] := Qd_end (by kernel_rfl) dn s
noncomputable def k71_24 : Code := codeA k71_12
noncomputable def k71_25 : Code := codeB k71_12
theorem k71_12_c : Qc Tryz.prog hs ks ⟨71, r⟩ k71_12 s = thenV (Qc Tryz.prog hs ks ⟨71, r⟩ k71_24 s) (Qc Tryz.prog hs ks ⟨71, r⟩ k71_25) := Qc_seq (a := k71_24) (b := k71_25) (by kernel_rfl) _ _
theorem k71_24_c : Qc Tryz.prog hs ks ⟨71, r⟩ k71_24 s = Qo Tryz.prog hs ks k71_24 0 ⟨71, r⟩ s := Qc_region (id := 8) (ops := regOps k71_24) (by kernel_rfl) (by kernel_rfl) s
theorem k71_24_0 : Qo Tryz.prog hs ks k71_24 0 ⟨71, r⟩ s = stepV s (some 76) (some { v := (s.regs.get undefV 0) }) (Qo Tryz.prog hs ks k71_24 1 ⟨71, r⟩) := oR (by kernel_rfl)
theorem k71_24_1 : Qo Tryz.prog hs ks k71_24 1 ⟨71, r⟩ s = stepV s (some 77) (xLoad Tryz.prog 74 s.h.get (s.regs.get undefV 4)) (Qo Tryz.prog hs ks k71_24 2 ⟨71, r⟩) := oR (by kernel_rfl)
theorem k71_24_2 : Qo Tryz.prog hs ks k71_24 2 ⟨71, r⟩ s = thenC (some 78) s (callX Tryz.prog hs ks (callOf (s.regs.get undefV 76) [(s.regs.get undefV 77)]) s.h) (Qo Tryz.prog hs ks k71_24 3 ⟨71, r⟩) := xR (by kernel_rfl)
theorem k71_24_3 : Qo Tryz.prog hs ks k71_24 3 ⟨71, r⟩ s = stepV s (some 79) (xUn .not (s.regs.get undefV 78)) (Qo Tryz.prog hs ks k71_24 4 ⟨71, r⟩) := oR (by kernel_rfl)
theorem k71_24_4 : Qo Tryz.prog hs ks k71_24 4 ⟨71, r⟩ s = some [(.normal, s)] := Qo_end (by kernel_rfl) s
noncomputable def k71_26 : Code := codeA k71_25
noncomputable def k71_27 : Code := codeB k71_25
theorem k71_25_c : Qc Tryz.prog hs ks ⟨71, r⟩ k71_25 s = condV (s.regs.get undefV 79) (Qc Tryz.prog hs ks ⟨71, r⟩ k71_26) (Qc Tryz.prog hs ks ⟨71, r⟩ k71_27) s := Qc_cond (t := 79) (a := k71_26) (b := k71_27) (by kernel_rfl) _ _
theorem k71_26_c : Qc Tryz.prog hs ks ⟨71, r⟩ k71_26 s = some [(.ret, s)] := Qc_ret (by kernel_rfl) _ _
theorem k71_27_c : Qc Tryz.prog hs ks ⟨71, r⟩ k71_27 s = some [(.normal, s)] := Qc_skip (by kernel_rfl) _ _
/-! function 107 -/
noncomputable def k107 : Code := Tryz.f107.body.getD .skip
theorem k107_fun (args : List V) (ha : args.length ≤ 9) (h : H) : (EV Tryz.prog hs ks).call 107 args h = endsV Tryz.prog hs ks Tryz.f107 (Qc Tryz.prog hs ks ⟨107, none⟩ k107 (S 9 (setF args 0 fun _ => undefV) [] h)) := EV_fun Tryz.func107 (by kernel_rfl) (by kernel_rfl) (by decide) ha h
theorem k107_ret (f : Nat → V) (h : H) : endsV Tryz.prog hs ks Tryz.f107 (some [(.ret, S 9 f [] h)]) = resV (resultVs Tryz.prog (S 9 f [] h) [.tmp 4]) h := ends_one (by kernel_rfl) (Or.inl rfl) _ _
theorem k107_nrm (f : Nat → V) (h : H) : endsV Tryz.prog hs ks Tryz.f107 (some [(.normal, S 9 f [] h)]) = resV (resultVs Tryz.prog (S 9 f [] h) [.tmp 4]) h := ends_one (by kernel_rfl) (Or.inr rfl) _ _
noncomputable def k107_0 : Code := codeA k107
noncomputable def k107_1 : Code := codeB k107
theorem k107_c : Qc Tryz.prog hs ks ⟨107, r⟩ k107 s = thenV (Qc Tryz.prog hs ks ⟨107, r⟩ k107_0 s) (Qc Tryz.prog hs ks ⟨107, r⟩ k107_1) := Qc_seq (a := k107_0) (b := k107_1) (by kernel_rfl) _ _
theorem k107_0_c : Qc Tryz.prog hs ks ⟨107, r⟩ k107_0 s = Qo Tryz.prog hs ks k107_0 0 ⟨107, r⟩ s := Qc_region (id := 0) (ops := regOps k107_0) (by kernel_rfl) (by kernel_rfl) s
theorem k107_0_0 : Qo Tryz.prog hs ks k107_0 0 ⟨107, r⟩ s = stepV s (some 4) (some { v := (.bool false) }) (Qo Tryz.prog hs ks k107_0 1 ⟨107, r⟩) := oR (by kernel_rfl)
theorem k107_0_1 : Qo Tryz.prog hs ks k107_0 1 ⟨107, r⟩ s = some [(.normal, s)] := Qo_end (by kernel_rfl) s
noncomputable def k107_2 : Code := codeA k107_1
noncomputable def k107_3 : Code := codeB k107_1
theorem k107_1_c : Qc Tryz.prog hs ks ⟨107, r⟩ k107_1 s = thenV (Qc Tryz.prog hs ks ⟨107, r⟩ k107_2 s) (Qc Tryz.prog hs ks ⟨107, r⟩ k107_3) := Qc_seq (a := k107_2) (b := k107_3) (by kernel_rfl) _ _
theorem k107_2_c : Qc Tryz.prog hs ks ⟨107, r⟩ k107_2 s = Qo Tryz.prog hs ks k107_2 0 ⟨107, r⟩ s := Qc_region (id := 1) (ops := regOps k107_2) (by kernel_rfl) (by kernel_rfl) s
theorem k107_2_0 : Qo Tryz.prog hs ks k107_2 0 ⟨107, r⟩ s = stepV s (some 5) (some { v := (s.regs.get undefV 0) }) (Qo Tryz.prog hs ks k107_2 1 ⟨107, r⟩) := oR (by kernel_rfl)
theorem k107_2_1 : Qo Tryz.prog hs ks k107_2 1 ⟨107, r⟩ s = stepV s (some 6) (some { v := (s.regs.get undefV 1) }) (Qo Tryz.prog hs ks k107_2 2 ⟨107, r⟩) := oR (by kernel_rfl)
theorem k107_2_2 : Qo Tryz.prog hs ks k107_2 2 ⟨107, r⟩ s = thenC (some 7) s (callS Tryz.prog hs ks 162 [(s.regs.get undefV 5), (s.regs.get undefV 6)] s.h) (Qo Tryz.prog hs ks k107_2 3 ⟨107, r⟩) := cR (by kernel_rfl)
theorem k107_2_3 : Qo Tryz.prog hs ks k107_2 3 ⟨107, r⟩ s = stepV s (some 8) (val (binV Tryz.prog .geq 3 false true (s.regs.get undefV 7) (.int .i64 (0)))) (Qo Tryz.prog hs ks k107_2 4 ⟨107, r⟩) := oR (by kernel_rfl)
theorem k107_2_4 : Qo Tryz.prog hs ks k107_2 4 ⟨107, r⟩ s = stepV s (some 4) (some { v := (s.regs.get undefV 8) }) (Qo Tryz.prog hs ks k107_2 5 ⟨107, r⟩) := oR (by kernel_rfl)
theorem k107_2_5 : Qo Tryz.prog hs ks k107_2 5 ⟨107, r⟩ s = some [(.normal, s)] := Qo_end (by kernel_rfl) s
theorem k107_3_c : Qc Tryz.prog hs ks ⟨107, r⟩ k107_3 s = some [(.ret, s)] := Qc_ret (by kernel_rfl) _ _
/-! function 115 -/
noncomputable def k115 : Code := Tryz.f115.body.getD .skip
theorem k115_fun (args : List V) (ha : args.length ≤ 9) (h : H) : (EV Tryz.prog hs ks).call 115 args h = endsV Tryz.prog hs ks Tryz.f115 (Qc Tryz.prog hs ks ⟨115, none⟩ k115 (S 9 (setF args 0 fun _ => undefV) [] h)) := EV_fun Tryz.func115 (by kernel_rfl) (by kernel_rfl) (by decide) ha h
theorem k115_ret (f : Nat → V) (h : H) : endsV Tryz.prog hs ks Tryz.f115 (some [(.ret, S 9 f [] h)]) = resV (resultVs Tryz.prog (S 9 f [] h) [.tmp 3]) h := ends_one (by kernel_rfl) (Or.inl rfl) _ _
theorem k115_nrm (f : Nat → V) (h : H) : endsV Tryz.prog hs ks Tryz.f115 (some [(.normal, S 9 f [] h)]) = resV (resultVs Tryz.prog (S 9 f [] h) [.tmp 3]) h := ends_one (by kernel_rfl) (Or.inr rfl) _ _
noncomputable def k115_0 : Code := codeA k115
noncomputable def k115_1 : Code := codeB k115
theorem k115_c : Qc Tryz.prog hs ks ⟨115, r⟩ k115 s = thenV (Qc Tryz.prog hs ks ⟨115, r⟩ k115_0 s) (Qc Tryz.prog hs ks ⟨115, r⟩ k115_1) := Qc_seq (a := k115_0) (b := k115_1) (by kernel_rfl) _ _
theorem k115_0_c : Qc Tryz.prog hs ks ⟨115, r⟩ k115_0 s = Qo Tryz.prog hs ks k115_0 0 ⟨115, r⟩ s := Qc_region (id := 0) (ops := regOps k115_0) (by kernel_rfl) (by kernel_rfl) s
theorem k115_0_0 : Qo Tryz.prog hs ks k115_0 0 ⟨115, r⟩ s = stepV s (some 2) (some { v := .ptr s.h.n 0, nw := [.row 0 (V.cells (s.regs.get undefV 0))] }) (Qo Tryz.prog hs ks k115_0 1 ⟨115, r⟩) := oR (by kernel_rfl)
theorem k115_0_1 : Qo Tryz.prog hs ks k115_0 1 ⟨115, r⟩ s = stepV s (some 3) (some { v := (.bool false) }) (Qo Tryz.prog hs ks k115_0 2 ⟨115, r⟩) := oR (by kernel_rfl)
theorem k115_0_2 : Qo Tryz.prog hs ks k115_0 2 ⟨115, r⟩ s = some [(.normal, s)] := Qo_end (by kernel_rfl) s
noncomputable def k115_2 : Code := codeA k115_1
noncomputable def k115_3 : Code := codeB k115_1
theorem k115_1_c : Qc Tryz.prog hs ks ⟨115, r⟩ k115_1 s = thenV (Qc Tryz.prog hs ks ⟨115, r⟩ k115_2 s) (Qc Tryz.prog hs ks ⟨115, r⟩ k115_3) := Qc_seq (a := k115_2) (b := k115_3) (by kernel_rfl) _ _
theorem k115_2_c : Qc Tryz.prog hs ks ⟨115, r⟩ k115_2 s = Qo Tryz.prog hs ks k115_2 0 ⟨115, r⟩ s := Qc_region (id := 1) (ops := regOps k115_2) (by kernel_rfl) (by kernel_rfl) s
theorem k115_2_0 : Qo Tryz.prog hs ks k115_2 0 ⟨115, r⟩ s = stepV s (some 4) (val (addrAdd (s.regs.get undefV 2) 1)) (Qo Tryz.prog hs ks k115_2 1 ⟨115, r⟩) := oR (by kernel_rfl)
theorem k115_2_1 : Qo Tryz.prog hs ks k115_2 1 ⟨115, r⟩ s = stepV s (some 5) (xLoad Tryz.prog 3 s.h.get (s.regs.get undefV 4)) (Qo Tryz.prog hs ks k115_2 2 ⟨115, r⟩) := oR (by kernel_rfl)
theorem k115_2_2 : Qo Tryz.prog hs ks k115_2 2 ⟨115, r⟩ s = stepV s (some 6) (val (addrAdd (s.regs.get undefV 1) 0)) (Qo Tryz.prog hs ks k115_2 3 ⟨115, r⟩) := oR (by kernel_rfl)
theorem k115_2_3 : Qo Tryz.prog hs ks k115_2 3 ⟨115, r⟩ s = stepV s (some 7) (xLoad Tryz.prog 3 s.h.get (s.regs.get undefV 6)) (Qo Tryz.prog hs ks k115_2 4 ⟨115, r⟩) := oR (by kernel_rfl)
theorem k115_2_4 : Qo Tryz.prog hs ks k115_2 4 ⟨115, r⟩ s = stepV s (some 8) (val (binV Tryz.prog .geq 3 false false (s.regs.get undefV 5) (s.regs.get undefV 7))) (Qo Tryz.prog hs ks k115_2 5 ⟨115, r⟩) := oR (by kernel_rfl)
theorem k115_2_5 : Qo Tryz.prog hs ks k115_2 5 ⟨115, r⟩ s = stepV s (some 3) (some { v := (s.regs.get undefV 8) }) (Qo Tryz.prog hs ks k115_2 6 ⟨115, r⟩) := oR (by kernel_rfl)
theorem k115_2_6 : Qo Tryz.prog hs ks k115_2 6 ⟨115, r⟩ s = some [(.normal, s)] := Qo_end (by kernel_rfl) s
theorem k115_3_c : Qc Tryz.prog hs ks ⟨115, r⟩ k115_3 s = some [(.ret, s)] := Qc_ret (by kernel_rfl) _ _
end Go.Proofs.YtelobjfgghlkfaaGreat.El
