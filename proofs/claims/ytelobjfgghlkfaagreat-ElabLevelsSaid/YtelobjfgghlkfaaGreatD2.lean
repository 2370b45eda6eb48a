import Derived.Test.YtelobjfgghlkfaaGreatD1
import Derived.KernelRfl
set_option linter.all false
noncomputable section
namespace Go.Proofs.YtelobjfgghlkfaaGreat.El
open Go Go.Ae
variable (r : Option Nat) (dn : List (Nat × Foot)) (s : St)
/-! function 3 -/
noncomputable def k3 : Code := Tryz.f3.body.getD .skip
theorem k3_fun (args : List V) (ha : args.length ≤ 92) (h : H) : (EV Tryz.prog hs ks).call 3 args h = endsV Tryz.prog hs ks Tryz.f3 (Qc Tryz.prog hs ks ⟨3, none⟩ k3 (S 92 (setF args 0 fun _ => undefV) [] h)) := EV_fun Tryz.func3 (by kernel_rfl) (by kernel_rfl) (by decide) ha h
theorem k3_ret (f : Nat → V) (h : H) : endsV Tryz.prog hs ks Tryz.f3 (some [(.ret, S 92 f [] h)]) = resV (resultVs Tryz.prog (S 92 f [] h) [.tmp 6]) h := ends_one (by kernel_rfl) (Or.inl rfl) _ _
theorem k3_nrm (f : Nat → V) (h : H) : endsV Tryz.prog hs ks Tryz.f3 (some [(.normal, S 92 f [] h)]) = resV (resultVs Tryz.prog (S 92 f [] h) [.tmp 6]) h := ends_one (by kernel_rfl) (Or.inr rfl) _ _
noncomputable def k3_0 : Code := codeA k3
noncomputable def k3_1 : Code := codeB k3
theorem k3_c : Qc Tryz.prog hs ks ⟨3, r⟩ k3 s = thenV (Qc Tryz.prog hs ks ⟨3, r⟩ k3_0 s) (Qc Tryz.prog hs ks ⟨3, r⟩ k3_1) := Qc_seq (a := k3_0) (b := k3_1) (by kernel_rfl) _ _
theorem k3_0_c : Qc Tryz.prog hs ks ⟨3, r⟩ k3_0 s = Qo Tryz.prog hs ks k3_0 0 ⟨3, r⟩ s := Qc_region (id := 0) (ops := regOps k3_0) (by kernel_rfl) (by kernel_rfl) s
theorem k3_0_0 : Qo Tryz.prog hs ks k3_0 0 ⟨3, r⟩ s = stepV s (some 4) (some { v := .ptr s.h.n 0, nw := [.row 0 (V.cells (s.regs.get undefV 1))] }) (Qo Tryz.prog hs ks k3_0 1 ⟨3, r⟩) := oR (by kernel_rfl)
theorem k3_0_1 : Qo Tryz.prog hs ks k3_0 1 ⟨3, r⟩ s = stepV s (some 5) (some { v := .ptr s.h.n 0, nw := [.row 0 (V.cells (s.regs.get undefV 2))] }) (Qo Tryz.prog hs ks k3_0 2 ⟨3, r⟩) := oR (by kernel_rfl)
theorem k3_0_2 : Qo Tryz.prog hs ks k3_0 2 ⟨3, r⟩ s = stepV s (some 6) (some { v := (.bool false) }) (Qo Tryz.prog hs ks k3_0 3 ⟨3, r⟩) := oR (by kernel_rfl)
theorem k3_0_3 : Qo Tryz.prog hs ks k3_0 3 ⟨3, r⟩ s = some [(.normal, s)] := Qo_end (by kernel_rfl) s
noncomputable def k3_2 : Code := codeA k3_1
noncomputable def k3_3 : Code := codeB k3_1
theorem k3_1_c : Qc Tryz.prog hs ks ⟨3, r⟩ k3_1 s = thenV (Qc Tryz.prog hs ks ⟨3, r⟩ k3_2 s) (Qc Tryz.prog hs ks ⟨3, r⟩ k3_3) := Qc_seq (a := k3_2) (b := k3_3) (by kernel_rfl) _ _
noncomputable def k3_4 : Code := codeA k3_2
noncomputable def k3_5 : Code := codeB k3_2
theorem k3_2_c : Qc Tryz.prog hs ks ⟨3, r⟩ k3_2 s = thenV (Qc Tryz.prog hs ks ⟨3, r⟩ k3_4 s) (Qc Tryz.prog hs ks ⟨3, r⟩ k3_5) := Qc_seq (a := k3_4) (b := k3_5) (by kernel_rfl) _ _
theorem k3_4_c : Qc Tryz.prog hs ks ⟨3, r⟩ k3_4 s = Qo Tryz.prog hs ks k3_4 0 ⟨3, r⟩ s := Qc_region (id := 1) (ops := regOps k3_4) (by kernel_rfl) (by kernel_rfl) s
theorem k3_4_0 : Qo Tryz.prog hs ks k3_4 0 ⟨3, r⟩ s = stepV s (some 14) (some { v := (s.regs.get undefV 0) }) (Qo Tryz.prog hs ks k3_4 1 ⟨3, r⟩) := oR (by kernel_rfl)
theorem k3_4_1 : Qo Tryz.prog hs ks k3_4 1 ⟨3, r⟩ s = thenC (some 15) s (callS Tryz.prog hs ks 4 [(s.regs.get undefV 14)] s.h) (Qo Tryz.prog hs ks k3_4 2 ⟨3, r⟩) := cR (by kernel_rfl)
theorem k3_4_2 : Qo Tryz.prog hs ks k3_4 2 ⟨3, r⟩ s = stepV s (some 16) (xUn .not (s.regs.get undefV 15)) (Qo Tryz.prog hs ks k3_4 3 ⟨3, r⟩) := oR (by kernel_rfl)
theorem k3_4_3 : Qo Tryz.prog hs ks k3_4 3 ⟨3, r⟩ s = stepV s (some 17) (some { v := (s.regs.get undefV 16) }) (Qo Tryz.prog hs ks k3_4 4 ⟨3, r⟩) := oR (by kernel_rfl)
theorem k3_4_4 : Qo Tryz.prog hs ks k3_4 4 ⟨3, r⟩ s = if wantB (s.regs.get undefV 17) false = true then stepV s (some 18) (val (addrAdd (s.regs.get undefV 5) 1)) (Qo Tryz.prog hs ks k3_4 5 ⟨3, r⟩) else Qo Tryz.prog hs ks k3_4 5 ⟨3, r⟩ (skipS s (some 18)) := oI (by kernel_rfl)
theorem k3_4_5 : Qo Tryz.prog hs ks k3_4 5 ⟨3, r⟩ s = if wantB (s.regs.get undefV 17) false = true then stepV s (some 19) (xLoad Tryz.prog 28 s.h.get (s.regs.get undefV 18)) (Qo Tryz.prog hs ks k3_4 6 ⟨3, r⟩) else Qo Tryz.prog hs ks k3_4 6 ⟨3, r⟩ (skipS s (some 19)) := oI (by kernel_rfl)
theorem k3_4_6 : Qo Tryz.prog hs ks k3_4 6 ⟨3, r⟩ s = if wantB (s.regs.get undefV 17) false = true then stepV s (some 20) (builtinV Tryz.prog false s.h.get s.h.n .len [28] [(s.regs.get undefV 19)]) (Qo Tryz.prog hs ks k3_4 7 ⟨3, r⟩) else Qo Tryz.prog hs ks k3_4 7 ⟨3, r⟩ (skipS s (some 20)) := oI (by kernel_rfl)
theorem k3_4_7 : Qo Tryz.prog hs ks k3_4 7 ⟨3, r⟩ s = if wantB (s.regs.get undefV 17) false = true then stepV s (some 21) (val (binV Tryz.prog .gtr 3 false true (s.regs.get undefV 20) (.int .i64 (10)))) (Qo Tryz.prog hs ks k3_4 8 ⟨3, r⟩) else Qo Tryz.prog hs ks k3_4 8 ⟨3, r⟩ (skipS s (some 21)) := oI (by kernel_rfl)
theorem k3_4_8 : Qo Tryz.prog hs ks k3_4 8 ⟨3, r⟩ s = stepV s (some 22) (xPick (s.regs.get undefV 17) (.bool true) (s.regs.get undefV 21)) (Qo Tryz.prog hs ks k3_4 9 ⟨3, r⟩) := oR (by kernel_rfl)
theorem k3_4_9 : Qo Tryz.prog hs ks k3_4 9 ⟨3, r⟩ s = stepV s (some 23) (some { v := (s.regs.get undefV 22) }) (Qo Tryz.prog hs ks k3_4 10 ⟨3, r⟩) := oR (by kernel_rfl)
theorem k3_4_10 : Qo Tryz.prog hs ks k3_4 10 ⟨3, r⟩ s = if wantB (s.regs.get undefV 23) false = true then stepV s (some 24) (val (addrAdd (s.regs.get undefV 4) 3)) (Qo Tryz.prog hs ks k3_4 11 ⟨3, r⟩) else Qo Tryz.prog hs ks k3_4 11 ⟨3, r⟩ (skipS s (some 24)) := oI (by kernel_rfl)
theorem k3_4_11 : Qo Tryz.prog hs ks k3_4 11 ⟨3, r⟩ s = if wantB (s.regs.get undefV 23) false = true then stepV s (some 25) (xLoad Tryz.prog 3 s.h.get (s.regs.get undefV 24)) (Qo Tryz.prog hs ks k3_4 12 ⟨3, r⟩) else Qo Tryz.prog hs ks k3_4 12 ⟨3, r⟩ (skipS s (some 25)) := oI (by kernel_rfl)
theorem k3_4_12 : Qo Tryz.prog hs ks k3_4 12 ⟨3, r⟩ s = if wantB (s.regs.get undefV 23) false = true then stepV s (some 26) (val (binV Tryz.prog .lss 3 false true (s.regs.get undefV 25) (.int .i64 (0)))) (Qo Tryz.prog hs ks k3_4 13 ⟨3, r⟩) else Qo Tryz.prog hs ks k3_4 13 ⟨3, r⟩ (skipS s (some 26)) := oI (by kernel_rfl)
theorem k3_4_13 : Qo Tryz.prog hs ks k3_4 13 ⟨3, r⟩ s = stepV s (some 27) (xPick (s.regs.get undefV 23) (.bool true) (s.regs.get undefV 26)) (Qo Tryz.prog hs ks k3_4 14 ⟨3, r⟩) := oR (by kernel_rfl)
theorem k3_4_14 : Qo Tryz.prog hs ks k3_4 14 ⟨3, r⟩ s = stepV s (some 28) (some { v := (s.regs.get undefV 27) }) (Qo Tryz.prog hs ks k3_4 15 ⟨3, r⟩) := oR (by kernel_rfl)
theorem k3_4_15 : Qo Tryz.prog hs ks k3_4 15 ⟨3, r⟩ s = if wantB (s.regs.get undefV 28) false = true then stepV s (some 29) (val (addrAdd (s.regs.get undefV 4) 3)) (Qo Tryz.prog hs ks k3_4 16 ⟨3, r⟩) else Qo Tryz.prog hs ks k3_4 16 ⟨3, r⟩ (skipS s (some 29)) := oI (by kernel_rfl)
theorem k3_4_16 : Qo Tryz.prog hs ks k3_4 16 ⟨3, r⟩ s = if wantB (s.regs.get undefV 28) false = true then stepV s (some 30) (xLoad Tryz.prog 3 s.h.get (s.regs.get undefV 29)) (Qo Tryz.prog hs ks k3_4 17 ⟨3, r⟩) else Qo Tryz.prog hs ks k3_4 17 ⟨3, r⟩ (skipS s (some 30)) := oI (by kernel_rfl)
theorem k3_4_17 : Qo Tryz.prog hs ks k3_4 17 ⟨3, r⟩ s = if wantB (s.regs.get undefV 28) false = true then stepV s (some 31) (val (binV Tryz.prog .gtr 3 false true (s.regs.get undefV 30) (.int .i64 (60000)))) (Qo Tryz.prog hs ks k3_4 18 ⟨3, r⟩) else Qo Tryz.prog hs ks k3_4 18 ⟨3, r⟩ (skipS s (some 31)) := oI (by kernel_rfl)
theorem k3_4_18 : Qo Tryz.prog hs ks k3_4 18 ⟨3, r⟩ s = stepV s (some 32) (xPick (s.regs.get undefV 28) (.bool true) (s.regs.get undefV 31)) (Qo Tryz.prog hs ks k3_4 19 ⟨3, r⟩) := oR (by kernel_rfl)
theorem k3_4_19 : Qo Tryz.prog hs ks k3_4 19 ⟨3, r⟩ s = some [(.normal, s)] := Qo_end (by kernel_rfl) s
noncomputable def k3_6 : Code := codeA k3_5
noncomputable def k3_7 : Code := codeB k3_5
theorem k3_5_c : Qc Tryz.prog hs ks ⟨3, r⟩ k3_5 s = condV (s.regs.get undefV 32) (Qc Tryz.prog hs ks ⟨3, r⟩ k3_6) (Qc Tryz.prog hs ks ⟨3, r⟩ k3_7) s := Qc_cond (t := 32) (a := k3_6) (b := k3_7) (by kernel_rfl) _ _
noncomputable def k3_8 : Code := codeA k3_6
noncomputable def k3_9 : Code := codeB k3_6
theorem k3_6_c : Qc Tryz.prog hs ks ⟨3, r⟩ k3_6 s = thenV (Qc Tryz.prog hs ks ⟨3, r⟩ k3_8 s) (Qc Tryz.prog hs ks ⟨3, r⟩ k3_9) := Qc_seq (a := k3_8) (b := k3_9) (by kernel_rfl) _ _
theorem k3_8_c : Qc Tryz.prog hs ks ⟨3, r⟩ k3_8 s = Qo Tryz.prog hs ks k3_8 0 ⟨3, r⟩ s := Qc_region (id := 2) (ops := regOps k3_8) (by kernel_rfl) (by kernel_rfl) s
theorem k3_8_0 : Qo Tryz.prog hs ks k3_8 0 ⟨3, r⟩ s = thenC (some 33) s (callS Tryz.prog hs ks 5 [] s.h) (Qo Tryz.prog hs ks k3_8 1 ⟨3, r⟩) := cR (by kernel_rfl)
theorem k3_8_1 : Qo Tryz.prog hs ks k3_8 1 ⟨3, r⟩ s = stepV s (some 6) (some { v := (s.regs.get undefV 33) }) (Qo Tryz.prog hs ks k3_8 2 ⟨3, r⟩) := oR (by kernel_rfl)
theorem k3_8_2 : Qo Tryz.prog hs ks k3_8 2 ⟨3, r⟩ s = some [(.normal, s)] := Qo_end (by kernel_rfl) s
theorem k3_9_c : Qc Tryz.prog hs ks ⟨3, r⟩ k3_9 s = some [(.ret, s)] := Qc_ret (by kernel_rfl) _ _
theorem k3_7_c : Qc Tryz.prog hs ks ⟨3, r⟩ k3_7 s = some [(.normal, s)] := Qc_skip (by kernel_rfl) _ _
noncomputable def k3_10 : Code := codeA k3_3
noncomputable def k3_11 : Code := codeB k3_3
theorem k3_3_c : Qc Tryz.prog hs ks ⟨3, r⟩ k3_3 s = thenV (Qc Tryz.prog hs ks ⟨3, r⟩ k3_10 s) (Qc Tryz.prog hs ks ⟨3, r⟩ k3_11) := Qc_seq (a := k3_10) (b := k3_11) (by kernel_rfl) _ _
noncomputable def k3_12 : Code := codeA k3_10
noncomputable def k3_13 : Code := codeB k3_10
theorem k3_10_c : Qc Tryz.prog hs ks ⟨3, r⟩ k3_10 s = thenV (Qc Tryz.prog hs ks ⟨3, r⟩ k3_12 s) (Qc Tryz.prog hs ks ⟨3, r⟩ k3_13) := Qc_seq (a := k3_12) (b := k3_13) (by kernel_rfl) _ _
theorem k3_12_c : Qc Tryz.prog hs ks ⟨3, r⟩ k3_12 s = Qo Tryz.prog hs ks k3_12 0 ⟨3, r⟩ s := Qc_region (id := 3) (ops := regOps k3_12) (by kernel_rfl) (by kernel_rfl) s
theorem k3_12_0 : Qo Tryz.prog hs ks k3_12 0 ⟨3, r⟩ s = stepV s (some 7) (some { v := (.int .i64 (0)) }) (Qo Tryz.prog hs ks k3_12 1 ⟨3, r⟩) := oR (by kernel_rfl)
theorem k3_12_1 : Qo Tryz.prog hs ks k3_12 1 ⟨3, r⟩ s = some [(.normal, s)] := Qo_end (by kernel_rfl) s
noncomputable def k3_14 : Code := codeA k3_13
theorem k3_13_c : Qc Tryz.prog hs ks ⟨3, r⟩ k3_13 s = blockV 0 (Qc Tryz.prog hs ks ⟨3, r⟩ k3_14 s) := Qc_block (b := k3_14) (by kernel_rfl) _ _
noncomputable def k3_15 : Code := codeA k3_14
theorem k3_14_l : Qc Tryz.prog hs ks ⟨3, r⟩ k3_14 s = thenV (Qc Tryz.prog hs ks ⟨3, r⟩ k3_15 s) (Qc Tryz.prog hs ks ⟨3, r⟩ k3_14) := Qc_loop (b := k3_15) (by kernel_rfl) _ _
noncomputable def k3_16 : Code := codeA k3_15
noncomputable def k3_17 : Code := codeB k3_15
theorem k3_15_c : Qc Tryz.prog hs ks ⟨3, r⟩ k3_15 s = thenV (Qc Tryz.prog hs ks ⟨3, r⟩ k3_16 s) (Qc Tryz.prog hs ks ⟨3, r⟩ k3_17) := Qc_seq (a := k3_16) (b := k3_17) (by kernel_rfl) _ _
noncomputable def k3_18 : Code := codeA k3_16
noncomputable def k3_19 : Code := codeB k3_16
theorem k3_16_c : Qc Tryz.prog hs ks ⟨3, r⟩ k3_16 s = thenV (Qc Tryz.prog hs ks ⟨3, r⟩ k3_18 s) (Qc Tryz.prog hs ks ⟨3, r⟩ k3_19) := Qc_seq (a := k3_18) (b := k3_19) (by kernel_rfl) _ _
theorem k3_18_c : Qc Tryz.prog hs ks ⟨3, r⟩ k3_18 s = Qo Tryz.prog hs ks k3_18 0 ⟨3, r⟩ s := Qc_region (id := 4) (ops := regOps k3_18) (by kernel_rfl) (by kernel_rfl) s
theorem k3_18_0 : Qo Tryz.prog hs ks k3_18 0 ⟨3, r⟩ s = stepV s (some 34) (some { v := (s.regs.get undefV 7) }) (Qo Tryz.prog hs ks k3_18 1 ⟨3, r⟩) := oR (by kernel_rfl)
theorem k3_18_1 : Qo Tryz.prog hs ks k3_18 1 ⟨3, r⟩ s = stepV s (some 35) (val (addrAdd (s.regs.get undefV 5) 1)) (Qo Tryz.prog hs ks k3_18 2 ⟨3, r⟩) := oR (by kernel_rfl)
theorem k3_18_2 : Qo Tryz.prog hs ks k3_18 2 ⟨3, r⟩ s = stepV s (some 36) (xLoad Tryz.prog 28 s.h.get (s.regs.get undefV 35)) (Qo Tryz.prog hs ks k3_18 3 ⟨3, r⟩) := oR (by kernel_rfl)
theorem k3_18_3 : Qo Tryz.prog hs ks k3_18 3 ⟨3, r⟩ s = stepV s (some 37) (builtinV Tryz.prog false s.h.get s.h.n .len [28] [(s.regs.get undefV 36)]) (Qo Tryz.prog hs ks k3_18 4 ⟨3, r⟩) := oR (by kernel_rfl)
theorem k3_18_4 : Qo Tryz.prog hs ks k3_18 4 ⟨3, r⟩ s = stepV s (some 38) (val (binV Tryz.prog .lss 3 false false (s.regs.get undefV 34) (s.regs.get undefV 37))) (Qo Tryz.prog hs ks k3_18 5 ⟨3, r⟩) := oR (by kernel_rfl)
theorem k3_18_5 : Qo Tryz.prog hs ks k3_18 5 ⟨3, r⟩ s = some [(.normal, s)] := Qo_end (by kernel_rfl) s
noncomputable def k3_20 : Code := codeA k3_19
noncomputable def k3_21 : Code := codeB k3_19
theorem k3_19_c : Qc Tryz.prog hs ks ⟨3, r⟩ k3_19 s = condV (s.regs.get undefV 38) (Qc Tryz.prog hs ks ⟨3, r⟩ k3_20) (Qc Tryz.prog hs ks ⟨3, r⟩ k3_21) s := Qc_cond (t := 38) (a := k3_20) (b := k3_21) (by kernel_rfl) _ _
theorem k3_20_c : Qc Tryz.prog hs ks ⟨3, r⟩ k3_20 s = some [(.normal, s)] := Qc_skip (by kernel_rfl) _ _
theorem k3_21_c : Qc Tryz.prog hs ks ⟨3, r⟩ k3_21 s = some [(.exit 0, s)] := Qc_exit (by kernel_rfl) _ _
noncomputable def k3_22 : Code := codeA k3_17
noncomputable def k3_23 : Code := codeB k3_17
theorem k3_17_c : Qc Tryz.prog hs ks ⟨3, r⟩ k3_17 s = thenV (Qc Tryz.prog hs ks ⟨3, r⟩ k3_22 s) (Qc Tryz.prog hs ks ⟨3, r⟩ k3_23) := Qc_seq (a := k3_22) (b := k3_23) (by kernel_rfl) _ _
noncomputable def k3_24 : Code := codeA k3_22
theorem k3_22_c : Qc Tryz.prog hs ks ⟨3, r⟩ k3_22 s = blockV 1 (Qc Tryz.prog hs ks ⟨3, r⟩ k3_24 s) := Qc_block (b := k3_24) (by kernel_rfl) _ _
noncomputable def k3_25 : Code := codeA k3_24
noncomputable def k3_26 : Code := codeB k3_24
theorem k3_24_c : Qc Tryz.prog hs ks ⟨3, r⟩ k3_24 s = thenV (Qc Tryz.prog hs ks ⟨3, r⟩ k3_25 s) (Qc Tryz.prog hs ks ⟨3, r⟩ k3_26) := Qc_seq (a := k3_25) (b := k3_26) (by kernel_rfl) _ _
theorem k3_25_c : Qc Tryz.prog hs ks ⟨3, r⟩ k3_25 s = Qo Tryz.prog hs ks k3_25 0 ⟨3, r⟩ s := Qc_region (id := 6) (ops := regOps k3_25) (by kernel_rfl) (by kernel_rfl) s
theorem k3_25_0 : Qo Tryz.prog hs ks k3_25 0 ⟨3, r⟩ s = stepV s (some 41) (val (addrAdd (s.regs.get undefV 5) 1)) (Qo Tryz.prog hs ks k3_25 1 ⟨3, r⟩) := oR (by kernel_rfl)
theorem k3_25_1 : Qo Tryz.prog hs ks k3_25 1 ⟨3, r⟩ s = stepV s (some 42) (xLoad Tryz.prog 28 s.h.get (s.regs.get undefV 41)) (Qo Tryz.prog hs ks k3_25 2 ⟨3, r⟩) := oR (by kernel_rfl)
theorem k3_25_2 : Qo Tryz.prog hs ks k3_25 2 ⟨3, r⟩ s = stepV s (some 43) (some { v := (s.regs.get undefV 7) }) (Qo Tryz.prog hs ks k3_25 3 ⟨3, r⟩) := oR (by kernel_rfl)
theorem k3_25_3 : Qo Tryz.prog hs ks k3_25 3 ⟨3, r⟩ s = stepV s (some 44) (val (indexAddr Tryz.prog 28 (s.regs.get undefV 42) (s.regs.get undefV 43))) (Qo Tryz.prog hs ks k3_25 4 ⟨3, r⟩) := oR (by kernel_rfl)
theorem k3_25_4 : Qo Tryz.prog hs ks k3_25 4 ⟨3, r⟩ s = stepV s (some 45) (val (addrAdd (s.regs.get undefV 44) 1)) (Qo Tryz.prog hs ks k3_25 5 ⟨3, r⟩) := oR (by kernel_rfl)
theorem k3_25_5 : Qo Tryz.prog hs ks k3_25 5 ⟨3, r⟩ s = stepV s (some 46) (xLoad Tryz.prog 3 s.h.get (s.regs.get undefV 45)) (Qo Tryz.prog hs ks k3_25 6 ⟨3, r⟩) := oR (by kernel_rfl)
theorem k3_25_6 : Qo Tryz.prog hs ks k3_25 6 ⟨3, r⟩ s = stepV s (some 47) (val (binV Tryz.prog .lss 3 false true (s.regs.get undefV 46) (.int .i64 (0)))) (Qo Tryz.prog hs ks k3_25 7 ⟨3, r⟩) := oR (by kernel_rfl)
theorem k3_25_7 : Qo Tryz.prog hs ks k3_25 7 ⟨3, r⟩ s = some [(.normal, s)] := Qo_end (by kernel_rfl) s
noncomputable def k3_27 : Code := codeA k3_26
noncomputable def k3_28 : Code := codeB k3_26
theorem k3_26_c : Qc Tryz.prog hs ks ⟨3, r⟩ k3_26 s = condV (s.regs.get undefV 47) (Qc Tryz.prog hs ks ⟨3, r⟩ k3_27) (Qc Tryz.prog hs ks ⟨3, r⟩ k3_28) s := Qc_cond (t := 47) (a := k3_27) (b := k3_28) (by kernel_rfl) _ _
noncomputable def k3_29 : Code := codeA k3_27
noncomputable def k3_30 : Code := codeB k3_27
theorem k3_27_c : Qc Tryz.prog hs ks ⟨3, r⟩ k3_27 s = thenV (Qc Tryz.prog hs ks ⟨3, r⟩ k3_29 s) (Qc Tryz.prog hs ks ⟨3, r⟩ k3_30) := Qc_seq (a := k3_29) (b := k3_30) (by kernel_rfl) _ _
theorem k3_29_c : Qc Tryz.prog hs ks ⟨3, r⟩ k3_29 s = Qo Tryz.prog hs ks k3_29 0 ⟨3, r⟩ s := Qc_region (id := 7) (ops := regOps k3_29) (by kernel_rfl) (by kernel_rfl) s
theorem k3_29_0 : Qo Tryz.prog hs ks k3_29 0 ⟨3, r⟩ s = thenC (some 48) s (callS Tryz.prog hs ks 5 [] s.h) (Qo Tryz.prog hs ks k3_29 1 ⟨3, r⟩) := cR (by kernel_rfl)
theorem k3_29_1 : Qo Tryz.prog hs ks k3_29 1 ⟨3, r⟩ s = stepV s (some 6) (some { v := (s.regs.get undefV 48) }) (Qo Tryz.prog hs ks k3_29 2 ⟨3, r⟩) := oR (by kernel_rfl)
theorem k3_29_2 : Qo Tryz.prog hs ks k3_29 2 ⟨3, r⟩ s = some [(.normal, s)] := Qo_end (by kernel_rfl) s
theorem k3_30_c : Qc Tryz.prog hs ks ⟨3, r⟩ k3_30 s = some [(.ret, s)] := Qc_ret (by kernel_rfl) _ _
theorem k3_28_c : Qc Tryz.prog hs ks ⟨3, r⟩ k3_28 s = some [(.normal, s)] := Qc_skip (by kernel_rfl) _ _
theorem k3_23_c : Qc Tryz.prog hs ks ⟨3, r⟩ k3_23 s = Qo Tryz.prog hs ks k3_23 0 ⟨3, r⟩ s := Qc_region (id := 5) (ops := regOps k3_23) (by kernel_rfl) (by kernel_rfl) s
theorem k3_23_0 : Qo Tryz.prog hs ks k3_23 0 ⟨3, r⟩ s = stepV s (some 39) (some { v := (s.regs.get undefV 7) }) (Qo Tryz.prog hs ks k3_23 1 ⟨3, r⟩) := oR (by kernel_rfl)
theorem k3_23_1 : Qo Tryz.prog hs ks k3_23 1 ⟨3, r⟩ s = stepV s (some 40) (val (binV Tryz.prog .add 3 false true (s.regs.get undefV 39) (.int .i64 (1)))) (Qo Tryz.prog hs ks k3_23 2 ⟨3, r⟩) := oR (by kernel_rfl)
theorem k3_23_2 : Qo Tryz.prog hs ks k3_23 2 ⟨3, r⟩ s = stepV s (some 7) (some { v := (s.regs.get undefV 40) }) (Qo Tryz.prog hs ks k3_23 3 ⟨3, r⟩) := oR (by kernel_rfl)
theorem k3_23_3 : Qo Tryz.prog hs ks k3_23 3 ⟨3, r⟩ s = some [(.normal, s)] := Qo_end (by kernel_rfl) s
noncomputable def k3_31 : Code := codeA k3_11
noncomputable def k3_32 : Code := codeB k3_11
theorem k3_11_c : Qc Tryz.prog hs ks ⟨3, r⟩ k3_11 s = thenV (Qc Tryz.prog hs ks ⟨3, r⟩ k3_31 s) (Qc Tryz.prog hs ks ⟨3, r⟩ k3_32) := Qc_seq (a := k3_31) (b := k3_32) (by kernel_rfl) _ _
theorem k3_31_c : Qc Tryz.prog hs ks ⟨3, r⟩ k3_31 s = Qo Tryz.prog hs ks k3_31 0 ⟨3, r⟩ s := Qc_region (id := 8) (ops := regOps k3_31) (by kernel_rfl) (by kernel_rfl) s
theorem k3_31_0 : Qo Tryz.prog hs ks k3_31 0 ⟨3, r⟩ s = stepV s (some 50) (some { v := (s.regs.get undefV 0) }) (Qo Tryz.prog hs ks k3_31 1 ⟨3, r⟩) := oR (by kernel_rfl)
theorem k3_31_1 : Qo Tryz.prog hs ks k3_31 1 ⟨3, r⟩ s = stepV s (some 51) (xLoad Tryz.prog 27 s.h.get (s.regs.get undefV 4)) (Qo Tryz.prog hs ks k3_31 2 ⟨3, r⟩) := oR (by kernel_rfl)
theorem k3_31_2 : Qo Tryz.prog hs ks k3_31 2 ⟨3, r⟩ s = stepV s (some 52) (xLoad Tryz.prog 30 s.h.get (s.regs.get undefV 5)) (Qo Tryz.prog hs ks k3_31 3 ⟨3, r⟩) := oR (by kernel_rfl)
theorem k3_31_3 : Qo Tryz.prog hs ks k3_31 3 ⟨3, r⟩ s = thenC (some 53) s (callS Tryz.prog hs ks 6 [(s.regs.get undefV 50), (s.regs.get undefV 51), (s.regs.get undefV 52)] s.h) (Qo Tryz.prog hs ks k3_31 4 ⟨3, r⟩) := cR (by kernel_rfl)
theorem k3_31_4 : Qo Tryz.prog hs ks k3_31 4 ⟨3, r⟩ s = stepV s (some 49) (some { v := (s.regs.get undefV 53) }) (Qo Tryz.prog hs ks k3_31 5 ⟨3, r⟩) := oR (by kernel_rfl)
theorem k3_31_5 : Qo Tryz.prog hs ks k3_31 5 ⟨3, r⟩ s = stepV s (some 54) (xExtract (s.regs.get undefV 49) 0) (Qo Tryz.prog hs ks k3_31 6 ⟨3, r⟩) := oR (by kernel_rfl)
theorem k3_31_6 : Qo Tryz.prog hs ks k3_31 6 ⟨3, r⟩ s = stepV s (some 55) (xExtract (s.regs.get undefV 49) 1) (Qo Tryz.prog hs ks k3_31 7 ⟨3, r⟩) := oR (by kernel_rfl)
theorem k3_31_7 : Qo Tryz.prog hs ks k3_31 7 ⟨3, r⟩ s = stepV s (some 56) (xExtract (s.regs.get undefV 49) 2) (Qo Tryz.prog hs ks k3_31 8 ⟨3, r⟩) := oR (by kernel_rfl)
theorem k3_31_8 : Qo Tryz.prog hs ks k3_31 8 ⟨3, r⟩ s = stepV s (some 8) (some { v := .ptr s.h.n 0, nw := [.row 0 [.nils, .nils, .nils, .int .i64 (0)]] }) (Qo Tryz.prog hs ks k3_31 9 ⟨3, r⟩) := oR (by kernel_rfl)
theorem k3_31_9 : Qo Tryz.prog hs ks k3_31 9 ⟨3, r⟩ s = stepV s (some 9) (some { v := .ptr s.h.n 0, nw := [.row 0 [.int .i64 (0), .nils]] }) (Qo Tryz.prog hs ks k3_31 10 ⟨3, r⟩) := oR (by kernel_rfl)
theorem k3_31_10 : Qo Tryz.prog hs ks k3_31 10 ⟨3, r⟩ s = stepV s none (xStore Tryz.prog 27 s.h.get (s.regs.get undefV 8) (s.regs.get undefV 54)) (Qo Tryz.prog hs ks k3_31 11 ⟨3, r⟩) := oR (by kernel_rfl)
theorem k3_31_11 : Qo Tryz.prog hs ks k3_31 11 ⟨3, r⟩ s = stepV s none (xStore Tryz.prog 37 s.h.get (s.regs.get undefV 9) (s.regs.get undefV 55)) (Qo Tryz.prog hs ks k3_31 12 ⟨3, r⟩) := oR (by kernel_rfl)
theorem k3_31_12 : Qo Tryz.prog hs ks k3_31 12 ⟨3, r⟩ s = stepV s (some 10) (some { v := (s.regs.get undefV 56) }) (Qo Tryz.prog hs ks k3_31 13 ⟨3, r⟩) := oR (by kernel_rfl)
theorem k3_31_13 : Qo Tryz.prog hs ks k3_31 13 ⟨3, r⟩ s = some [(.normal, s)] := Qo_end (by kernel_rfl) s
noncomputable def k3_33 : Code := codeA k3_32
noncomputable def k3_34 : Code := codeB k3_32
theorem k3_32_c : Qc Tryz.prog hs ks ⟨3, r⟩ k3_32 s = thenV (Qc Tryz.prog hs ks ⟨3, r⟩ k3_33 s) (Qc Tryz.prog hs ks ⟨3, r⟩ k3_34) := Qc_seq (a := k3_33) (b := k3_34) (by kernel_rfl) _ _
theorem k3_33_c : Qc Tryz.prog hs ks ⟨3, r⟩ k3_33 s = Qo Tryz.prog hs ks k3_33 0 ⟨3, r⟩ s := Qc_region (id := 9) (ops := regOps k3_33) (by kernel_rfl) (by kernel_rfl) s
theorem k3_33_0 : Qo Tryz.prog hs ks k3_33 0 ⟨3, r⟩ s = stepV s (some 58) (some { v := (s.regs.get undefV 0) }) (Qo Tryz.prog hs ks k3_33 1 ⟨3, r⟩) := oR (by kernel_rfl)
theorem k3_33_1 : Qo Tryz.prog hs ks k3_33 1 ⟨3, r⟩ s = stepV s (some 59) (xLoad Tryz.prog 27 s.h.get (s.regs.get undefV 4)) (Qo Tryz.prog hs ks k3_33 2 ⟨3, r⟩) := oR (by kernel_rfl)
theorem k3_33_2 : Qo Tryz.prog hs ks k3_33 2 ⟨3, r⟩ s = stepV s (some 60) (xLoad Tryz.prog 30 s.h.get (s.regs.get undefV 5)) (Qo Tryz.prog hs ks k3_33 3 ⟨3, r⟩) := oR (by kernel_rfl)
theorem k3_33_3 : Qo Tryz.prog hs ks k3_33 3 ⟨3, r⟩ s = thenC (some 61) s (callS Tryz.prog hs ks 7 [(s.regs.get undefV 58), (s.regs.get undefV 59), (s.regs.get undefV 60)] s.h) (Qo Tryz.prog hs ks k3_33 4 ⟨3, r⟩) := cR (by kernel_rfl)
theorem k3_33_4 : Qo Tryz.prog hs ks k3_33 4 ⟨3, r⟩ s = stepV s (some 57) (some { v := (s.regs.get undefV 61) }) (Qo Tryz.prog hs ks k3_33 5 ⟨3, r⟩) := oR (by kernel_rfl)
theorem k3_33_5 : Qo Tryz.prog hs ks k3_33 5 ⟨3, r⟩ s = stepV s (some 62) (xExtract (s.regs.get undefV 57) 0) (Qo Tryz.prog hs ks k3_33 6 ⟨3, r⟩) := oR (by kernel_rfl)
theorem k3_33_6 : Qo Tryz.prog hs ks k3_33 6 ⟨3, r⟩ s = stepV s (some 63) (xExtract (s.regs.get undefV 57) 1) (Qo Tryz.prog hs ks k3_33 7 ⟨3, r⟩) := oR (by kernel_rfl)
theorem k3_33_7 : Qo Tryz.prog hs ks k3_33 7 ⟨3, r⟩ s = stepV s (some 64) (xExtract (s.regs.get undefV 57) 2) (Qo Tryz.prog hs ks k3_33 8 ⟨3, r⟩) := oR (by kernel_rfl)
theorem k3_33_8 : Qo Tryz.prog hs ks k3_33 8 ⟨3, r⟩ s = stepV s (some 11) (some { v := .ptr s.h.n 0, nw := [.row 0 [.nils, .nils, .nils, .int .i64 (0)]] }) (Qo Tryz.prog hs ks k3_33 9 ⟨3, r⟩) := oR (by kernel_rfl)
theorem k3_33_9 : Qo Tryz.prog hs ks k3_33 9 ⟨3, r⟩ s = stepV s (some 12) (some { v := .ptr s.h.n 0, nw := [.row 0 [.int .i64 (0), .nils]] }) (Qo Tryz.prog hs ks k3_33 10 ⟨3, r⟩) := oR (by kernel_rfl)
theorem k3_33_10 : Qo Tryz.prog hs ks k3_33 10 ⟨3, r⟩ s = stepV s none (xStore Tryz.prog 27 s.h.get (s.regs.get undefV 11) (s.regs.get undefV 62)) (Qo Tryz.prog hs ks k3_33 11 ⟨3, r⟩) := oR (by kernel_rfl)
theorem k3_33_11 : Qo Tryz.prog hs ks k3_33 11 ⟨3, r⟩ s = stepV s none (xStore Tryz.prog 37 s.h.get (s.regs.get undefV 12) (s.regs.get undefV 63)) (Qo Tryz.prog hs ks k3_33 12 ⟨3, r⟩) := oR (by kernel_rfl)
theorem k3_33_12 : Qo Tryz.prog hs ks k3_33 12 ⟨3, r⟩ s = stepV s (some 13) (some { v := (s.regs.get undefV 64) }) (Qo Tryz.prog hs ks k3_33 13 ⟨3, r⟩) := oR (by kernel_rfl)
theorem k3_33_13 : Qo Tryz.prog hs ks k3_33 13 ⟨3, r⟩ s = some [(.normal, s)] := Qo_end (by kernel_rfl) s
noncomputable def k3_35 : Code := codeA k3_34
noncomputable def k3_36 : Code := codeB k3_34
theorem k3_34_c : Qc Tryz.prog hs ks ⟨3, r⟩ k3_34 s = thenV (Qc Tryz.prog hs ks ⟨3, r⟩ k3_35 s) (Qc Tryz.prog hs ks ⟨3, r⟩ k3_36) := Qc_seq (a := k3_35) (b := k3_36) (by kernel_rfl) _ _
theorem k3_35_c : Qc Tryz.prog hs ks ⟨3, r⟩ k3_35 s = Qo Tryz.prog hs ks k3_35 0 ⟨3, r⟩ s := Qc_region (id := 10) (ops := regOps k3_35) (by kernel_rfl) (by kernel_rfl) s
theorem k3_35_0 : Qo Tryz.prog hs ks k3_35 0 ⟨3, r⟩ s = thenC (some 65) s (callS Tryz.prog hs ks 5 [] s.h) (Qo Tryz.prog hs ks k3_35 1 ⟨3, r⟩) := cR (by kernel_rfl)
theorem k3_35_1 : Qo Tryz.prog hs ks k3_35 1 ⟨3, r⟩ s = stepV s (some 66) (some { v := (s.regs.get undefV 65) }) (Qo Tryz.prog hs ks k3_35 2 ⟨3, r⟩) := oR (by kernel_rfl)
theorem k3_35_2 : Qo Tryz.prog hs ks k3_35 2 ⟨3, r⟩ s = if wantB (s.regs.get undefV 66) true = true then stepV s (some 67) (val (addrAdd (s.regs.get undefV 8) 3)) (Qo Tryz.prog hs ks k3_35 3 ⟨3, r⟩) else Qo Tryz.prog hs ks k3_35 3 ⟨3, r⟩ (skipS s (some 67)) := oI (by kernel_rfl)
theorem k3_35_3 : Qo Tryz.prog hs ks k3_35 3 ⟨3, r⟩ s = if wantB (s.regs.get undefV 66) true = true then stepV s (some 68) (xLoad Tryz.prog 3 s.h.get (s.regs.get undefV 67)) (Qo Tryz.prog hs ks k3_35 4 ⟨3, r⟩) else Qo Tryz.prog hs ks k3_35 4 ⟨3, r⟩ (skipS s (some 68)) := oI (by kernel_rfl)
theorem k3_35_4 : Qo Tryz.prog hs ks k3_35 4 ⟨3, r⟩ s = if wantB (s.regs.get undefV 66) true = true then stepV s (some 69) (val (addrAdd (s.regs.get undefV 11) 3)) (Qo Tryz.prog hs ks k3_35 5 ⟨3, r⟩) else Qo Tryz.prog hs ks k3_35 5 ⟨3, r⟩ (skipS s (some 69)) := oI (by kernel_rfl)
theorem k3_35_5 : Qo Tryz.prog hs ks k3_35 5 ⟨3, r⟩ s = if wantB (s.regs.get undefV 66) true = true then stepV s (some 70) (xLoad Tryz.prog 3 s.h.get (s.regs.get undefV 69)) (Qo Tryz.prog hs ks k3_35 6 ⟨3, r⟩) else Qo Tryz.prog hs ks k3_35 6 ⟨3, r⟩ (skipS s (some 70)) := oI (by kernel_rfl)
theorem k3_35_6 : Qo Tryz.prog hs ks k3_35 6 ⟨3, r⟩ s = if wantB (s.regs.get undefV 66) true = true then stepV s (some 71) (val (binV Tryz.prog .eql 3 false false (s.regs.get undefV 68) (s.regs.get undefV 70))) (Qo Tryz.prog hs ks k3_35 7 ⟨3, r⟩) else Qo Tryz.prog hs ks k3_35 7 ⟨3, r⟩ (skipS s (some 71)) := oI (by kernel_rfl)
theorem k3_35_7 : Qo Tryz.prog hs ks k3_35 7 ⟨3, r⟩ s = stepV s (some 72) (xPick (s.regs.get undefV 66) (s.regs.get undefV 71) (.bool false)) (Qo Tryz.prog hs ks k3_35 8 ⟨3, r⟩) := oR (by kernel_rfl)
theorem k3_35_8 : Qo Tryz.prog hs ks k3_35 8 ⟨3, r⟩ s = stepV s (some 73) (some { v := (s.regs.get undefV 72) }) (Qo Tryz.prog hs ks k3_35 9 ⟨3, r⟩) := oR (by kernel_rfl)
theorem k3_35_9 : Qo Tryz.prog hs ks k3_35 9 ⟨3, r⟩ s = if wantB (s.regs.get undefV 73) true = true then stepV s (some 74) (val (addrAdd (s.regs.get undefV 8) 0)) (Qo Tryz.prog hs ks k3_35 10 ⟨3, r⟩) else Qo Tryz.prog hs ks k3_35 10 ⟨3, r⟩ (skipS s (some 74)) := oI (by kernel_rfl)
theorem k3_35_10 : Qo Tryz.prog hs ks k3_35 10 ⟨3, r⟩ s = if wantB (s.regs.get undefV 73) true = true then stepV s (some 75) (xLoad Tryz.prog 23 s.h.get (s.regs.get undefV 74)) (Qo Tryz.prog hs ks k3_35 11 ⟨3, r⟩) else Qo Tryz.prog hs ks k3_35 11 ⟨3, r⟩ (skipS s (some 75)) := oI (by kernel_rfl)
theorem k3_35_11 : Qo Tryz.prog hs ks k3_35 11 ⟨3, r⟩ s = if wantB (s.regs.get undefV 73) true = true then stepV s (some 76) (builtinV Tryz.prog false s.h.get s.h.n .len [23] [(s.regs.get undefV 75)]) (Qo Tryz.prog hs ks k3_35 12 ⟨3, r⟩) else Qo Tryz.prog hs ks k3_35 12 ⟨3, r⟩ (skipS s (some 76)) := oI (by kernel_rfl)
theorem k3_35_12 : Qo Tryz.prog hs ks k3_35 12 ⟨3, r⟩ s = if wantB (s.regs.get undefV 73) true = true then stepV s (some 77) (val (addrAdd (s.regs.get undefV 11) 0)) (Qo Tryz.prog hs ks k3_35 13 ⟨3, r⟩) else Qo Tryz.prog hs ks k3_35 13 ⟨3, r⟩ (skipS s (some 77)) := oI (by kernel_rfl)
theorem k3_35_13 : Qo Tryz.prog hs ks k3_35 13 ⟨3, r⟩ s = if wantB (s.regs.get undefV 73) true = true then stepV s (some 78) (xLoad Tryz.prog 23 s.h.get (s.regs.get undefV 77)) (Qo Tryz.prog hs ks k3_35 14 ⟨3, r⟩) else Qo Tryz.prog hs ks k3_35 14 ⟨3, r⟩ (skipS s (some 78)) := oI (by kernel_rfl)
theorem k3_35_14 : Qo Tryz.prog hs ks k3_35 14 ⟨3, r⟩ s = if wantB (s.regs.get undefV 73) true = true then stepV s (some 79) (builtinV Tryz.prog false s.h.get s.h.n .len [23] [(s.regs.get undefV 78)]) (Qo Tryz.prog hs ks k3_35 15 ⟨3, r⟩) else Qo Tryz.prog hs ks k3_35 15 ⟨3, r⟩ (skipS s (some 79)) := oI (by kernel_rfl)
theorem k3_35_15 : Qo Tryz.prog hs ks k3_35 15 ⟨3, r⟩ s = if wantB (s.regs.get undefV 73) true = true then stepV s (some 80) (val (binV Tryz.prog .eql 3 false false (s.regs.get undefV 76) (s.regs.get undefV 79))) (Qo Tryz.prog hs ks k3_35 16 ⟨3, r⟩) else Qo Tryz.prog hs ks k3_35 16 ⟨3, r⟩ (skipS s (some 80)) := oI (by kernel_rfl)
theorem k3_35_16 : Qo Tryz.prog hs ks k3_35 16 ⟨3, r⟩ s = stepV s (some 81) (xPick (s.regs.get undefV 73) (s.regs.get undefV 80) (.bool false)) (Qo Tryz.prog hs ks k3_35 17 ⟨3, r⟩) := oR (by kernel_rfl)
theorem k3_35_17 : Qo Tryz.prog hs ks k3_35 17 ⟨3, r⟩ s = stepV s (some 82) (some { v := (s.regs.get undefV 81) }) (Qo Tryz.prog hs ks k3_35 18 ⟨3, r⟩) := oR (by kernel_rfl)
theorem k3_35_18 : Qo Tryz.prog hs ks k3_35 18 ⟨3, r⟩ s = if wantB (s.regs.get undefV 82) true = true then stepV s (some 83) (xLoad Tryz.prog 37 s.h.get (s.regs.get undefV 9)) (Qo Tryz.prog hs ks k3_35 19 ⟨3, r⟩) else Qo Tryz.prog hs ks k3_35 19 ⟨3, r⟩ (skipS s (some 83)) := oI (by kernel_rfl)
theorem k3_35_19 : Qo Tryz.prog hs ks k3_35 19 ⟨3, r⟩ s = if wantB (s.regs.get undefV 82) true = true then stepV s (some 84) (xLoad Tryz.prog 37 s.h.get (s.regs.get undefV 12)) (Qo Tryz.prog hs ks k3_35 20 ⟨3, r⟩) else Qo Tryz.prog hs ks k3_35 20 ⟨3, r⟩ (skipS s (some 84)) := oI (by kernel_rfl)
theorem k3_35_20 : Qo Tryz.prog hs ks k3_35 20 ⟨3, r⟩ s = if wantB (s.regs.get undefV 82) true = true then thenC (some 85) s (callS Tryz.prog hs ks 8 [(s.regs.get undefV 83), (s.regs.get undefV 84)] s.h) (Qo Tryz.prog hs ks k3_35 21 ⟨3, r⟩) else Qo Tryz.prog hs ks k3_35 21 ⟨3, r⟩ (skipS s (some 85)) := cI (by kernel_rfl)
theorem k3_35_21 : Qo Tryz.prog hs ks k3_35 21 ⟨3, r⟩ s = stepV s (some 86) (xPick (s.regs.get undefV 82) (s.regs.get undefV 85) (.bool false)) (Qo Tryz.prog hs ks k3_35 22 ⟨3, r⟩) := oR (by kernel_rfl)
theorem k3_35_22 : Qo Tryz.prog hs ks k3_35 22 ⟨3, r⟩ s = stepV s (some 87) (some { v := (s.regs.get undefV 86) }) (Qo Tryz.prog hs ks k3_35 23 ⟨3, r⟩) := oR (by kernel_rfl)
theorem k3_35_23 : Qo Tryz.prog hs ks k3_35 23 ⟨3, r⟩ s = if wantB (s.regs.get undefV 87) true = true then stepV s (some 88) (some { v := (s.regs.get undefV 10) }) (Qo Tryz.prog hs ks k3_35 24 ⟨3, r⟩) else Qo Tryz.prog hs ks k3_35 24 ⟨3, r⟩ (skipS s (some 88)) := oI (by kernel_rfl)
theorem k3_35_24 : Qo Tryz.prog hs ks k3_35 24 ⟨3, r⟩ s = if wantB (s.regs.get undefV 87) true = true then stepV s (some 89) (some { v := (s.regs.get undefV 13) }) (Qo Tryz.prog hs ks k3_35 25 ⟨3, r⟩) else Qo Tryz.prog hs ks k3_35 25 ⟨3, r⟩ (skipS s (some 89)) := oI (by kernel_rfl)
theorem k3_35_25 : Qo Tryz.prog hs ks k3_35 25 ⟨3, r⟩ s = if wantB (s.regs.get undefV 87) true = true then stepV s (some 90) (val (binV Tryz.prog .eql 3 false false (s.regs.get undefV 88) (s.regs.get undefV 89))) (Qo Tryz.prog hs ks k3_35 26 ⟨3, r⟩) else Qo Tryz.prog hs ks k3_35 26 ⟨3, r⟩ (skipS s (some 90)) := oI (by kernel_rfl)
theorem k3_35_26 : Qo Tryz.prog hs ks k3_35 26 ⟨3, r⟩ s = stepV s (some 91) (xPick (s.regs.get undefV 87) (s.regs.get undefV 90) (.bool false)) (Qo Tryz.prog hs ks k3_35 27 ⟨3, r⟩) := oR (by kernel_rfl)
theorem k3_35_27 : Qo Tryz.prog hs ks k3_35 27 ⟨3, r⟩ s = stepV s (some 6) (some { v := (s.regs.get undefV 91) }) (Qo Tryz.prog hs ks k3_35 28 ⟨3, r⟩) := oR (by kernel_rfl)
theorem k3_35_28 : Qo Tryz.prog hs ks k3_35 28 ⟨3, r⟩ s = some [(.normal, s)] := Qo_end (by kernel_rfl) s
theorem k3_36_c : Qc Tryz.prog hs ks ⟨3, r⟩ k3_36 s = some [(.ret, s)] := Qc_ret (by kernel_rfl) _ _
/-! function 6 -/
noncomputable def k6 : Code := Tryz.f6.body.getD .skip
theorem k6_fun (args : List V) (ha : args.length ≤ 55) (h : H) : (EV Tryz.prog hs ks).call 6 args h = endsV Tryz.prog hs ks Tryz.f6 (Qc Tryz.prog hs ks ⟨6, none⟩ k6 (S 55 (setF args 0 fun _ => undefV) [] h)) := EV_fun Tryz.func6 (by kernel_rfl) (by kernel_rfl) (by decide) ha h
theorem k6_ret (f : Nat → V) (h : H) : endsV Tryz.prog hs ks Tryz.f6 (some [(.ret, S 55 f [] h)]) = resV (resultVs Tryz.prog (S 55 f [] h) [.cell 6 27, .cell 7 37, .tmp 8]) h := ends_one (by kernel_rfl) (Or.inl rfl) _ _
theorem k6_nrm (f : Nat → V) (h : H) : endsV Tryz.prog hs ks Tryz.f6 (some [(.normal, S 55 f [] h)]) = resV (resultVs Tryz.prog (S 55 f [] h) [.cell 6 27, .cell 7 37, .tmp 8]) h := ends_one (by kernel_rfl) (Or.inr rfl) _ _
noncomputable def k6_0 : Code := codeA k6
noncomputable def k6_1 : Code := codeB k6
theorem k6_c : Qc Tryz.prog hs ks ⟨6, r⟩ k6 s = thenV (Qc Tryz.prog hs ks ⟨6, r⟩ k6_0 s) (Qc Tryz.prog hs ks ⟨6, r⟩ k6_1) := Qc_seq (a := k6_0) (b := k6_1) (by kernel_rfl) _ _
theorem k6_0_c : Qc Tryz.prog hs ks ⟨6, r⟩ k6_0 s = Qo Tryz.prog hs ks k6_0 0 ⟨6, r⟩ s := Qc_region (id := 0) (ops := regOps k6_0) (by kernel_rfl) (by kernel_rfl) s
theorem k6_0_0 : Qo Tryz.prog hs ks k6_0 0 ⟨6, r⟩ s = stepV s (some 4) (some { v := .ptr s.h.n 0, nw := [.row 0 (V.cells (s.regs.get undefV 1))] }) (Qo Tryz.prog hs ks k6_0 1 ⟨6, r⟩) := oR (by kernel_rfl)
theorem k6_0_1 : Qo Tryz.prog hs ks k6_0 1 ⟨6, r⟩ s = stepV s (some 5) (some { v := .ptr s.h.n 0, nw := [.row 0 (V.cells (s.regs.get undefV 2))] }) (Qo Tryz.prog hs ks k6_0 2 ⟨6, r⟩) := oR (by kernel_rfl)
theorem k6_0_2 : Qo Tryz.prog hs ks k6_0 2 ⟨6, r⟩ s = stepV s (some 6) (some { v := .ptr s.h.n 0, nw := [.row 0 [.nils, .nils, .nils, .int .i64 (0)]] }) (Qo Tryz.prog hs ks k6_0 3 ⟨6, r⟩) := oR (by kernel_rfl)
theorem k6_0_3 : Qo Tryz.prog hs ks k6_0 3 ⟨6, r⟩ s = stepV s (some 7) (some { v := .ptr s.h.n 0, nw := [.row 0 [.int .i64 (0), .nils]] }) (Qo Tryz.prog hs ks k6_0 4 ⟨6, r⟩) := oR (by kernel_rfl)
theorem k6_0_4 : Qo Tryz.prog hs ks k6_0 4 ⟨6, r⟩ s = stepV s (some 8) (some { v := (.int .i64 (0)) }) (Qo Tryz.prog hs ks k6_0 5 ⟨6, r⟩) := oR (by kernel_rfl)
theorem k6_0_5 : Qo Tryz.prog hs ks k6_0 5 ⟨6, r⟩ s = some [(.normal, s)] := Qo_end (by kernel_rfl) s
noncomputable def k6_2 : Code := codeA k6_1
noncomputable def k6_3 : Code := codeB k6_1
theorem k6_1_c : Qc Tryz.prog hs ks ⟨6, r⟩ k6_1 s = thenV (Qc Tryz.prog hs ks ⟨6, r⟩ k6_2 s) (Qc Tryz.prog hs ks ⟨6, r⟩ k6_3) := Qc_seq (a := k6_2) (b := k6_3) (by kernel_rfl) _ _
noncomputable def k6_4 : Code := codeA k6_2
noncomputable def k6_5 : Code := codeB k6_2
theorem k6_2_c : Qc Tryz.prog hs ks ⟨6, r⟩ k6_2 s = thenV (Qc Tryz.prog hs ks ⟨6, r⟩ k6_4 s) (Qc Tryz.prog hs ks ⟨6, r⟩ k6_5) := Qc_seq (a := k6_4) (b := k6_5) (by kernel_rfl) _ _
theorem k6_4_c : Qc Tryz.prog hs ks ⟨6, r⟩ k6_4 s = Qo Tryz.prog hs ks k6_4 0 ⟨6, r⟩ s := Qc_region (id := 1) (ops := regOps k6_4) (by kernel_rfl) (by kernel_rfl) s
theorem k6_4_0 : Qo Tryz.prog hs ks k6_4 0 ⟨6, r⟩ s = stepV s (some 16) (val (addrAdd (s.regs.get undefV 5) 0)) (Qo Tryz.prog hs ks k6_4 1 ⟨6, r⟩) := oR (by kernel_rfl)
theorem k6_4_1 : Qo Tryz.prog hs ks k6_4 1 ⟨6, r⟩ s = stepV s (some 17) (xLoad Tryz.prog 4 s.h.get (s.regs.get undefV 16)) (Qo Tryz.prog hs ks k6_4 2 ⟨6, r⟩) := oR (by kernel_rfl)
theorem k6_4_2 : Qo Tryz.prog hs ks k6_4 2 ⟨6, r⟩ s = some [(.normal, s)] := Qo_end (by kernel_rfl) s
noncomputable def k6_6 : Code := codeA k6_5
noncomputable def k6_7 : Code := codeB k6_5
theorem k6_5_c : Qc Tryz.prog hs ks ⟨6, r⟩ k6_5 s = condV (s.regs.get undefV 17) (Qc Tryz.prog hs ks ⟨6, r⟩ k6_6) (Qc Tryz.prog hs ks ⟨6, r⟩ k6_7) s := Qc_cond (t := 17) (a := k6_6) (b := k6_7) (by kernel_rfl) _ _
noncomputable def k6_8 : Code := codeA k6_6
noncomputable def k6_9 : Code := codeB k6_6
theorem k6_6_c : Qc Tryz.prog hs ks ⟨6, r⟩ k6_6 s = thenV (Qc Tryz.prog hs ks ⟨6, r⟩ k6_8 s) (Qc Tryz.prog hs ks ⟨6, r⟩ k6_9) := Qc_seq (a := k6_8) (b := k6_9) (by kernel_rfl) _ _
theorem k6_8_c : Qc Tryz.prog hs ks ⟨6, r⟩ k6_8 s = Qo Tryz.prog hs ks k6_8 0 ⟨6, r⟩ s := Qc_region (id := 2) (ops := regOps k6_8) (by kernel_rfl) (by kernel_rfl) s
theorem k6_8_0 : Qo Tryz.prog hs ks k6_8 0 ⟨6, r⟩ s = stepV s (some 18) (xLoad Tryz.prog 27 s.h.get (s.regs.get undefV 4)) (Qo Tryz.prog hs ks k6_8 1 ⟨6, r⟩) := oR (by kernel_rfl)
theorem k6_8_1 : Qo Tryz.prog hs ks k6_8 1 ⟨6, r⟩ s = stepV s (some 19) (val (build Tryz.prog 68 [(2, (s.regs.get undefV 18))])) (Qo Tryz.prog hs ks k6_8 2 ⟨6, r⟩) := oR (by kernel_rfl)
theorem k6_8_2 : Qo Tryz.prog hs ks k6_8 2 ⟨6, r⟩ s = stepV s (some 20) (some { v := .ptr s.h.n 0, nw := [.row 0 (V.cells (s.regs.get undefV 19))] }) (Qo Tryz.prog hs ks k6_8 3 ⟨6, r⟩) := oR (by kernel_rfl)
theorem k6_8_3 : Qo Tryz.prog hs ks k6_8 3 ⟨6, r⟩ s = stepV s (some 9) (some { v := (s.regs.get undefV 20) }) (Qo Tryz.prog hs ks k6_8 4 ⟨6, r⟩) := oR (by kernel_rfl)
theorem k6_8_4 : Qo Tryz.prog hs ks k6_8 4 ⟨6, r⟩ s = some [(.normal, s)] := Qo_end (by kernel_rfl) s
noncomputable def k6_10 : Code := codeA k6_9
noncomputable def k6_11 : Code := codeB k6_9
theorem k6_9_c : Qc Tryz.prog hs ks ⟨6, r⟩ k6_9 s = thenV (Qc Tryz.prog hs ks ⟨6, r⟩ k6_10 s) (Qc Tryz.prog hs ks ⟨6, r⟩ k6_11) := Qc_seq (a := k6_10) (b := k6_11) (by kernel_rfl) _ _
theorem k6_10_c : Qc Tryz.prog hs ks ⟨6, r⟩ k6_10 s = Qo Tryz.prog hs ks k6_10 0 ⟨6, r⟩ s := Qc_region (id := 3) (ops := regOps k6_10) (by kernel_rfl) (by kernel_rfl) s
theorem k6_10_0 : Qo Tryz.prog hs ks k6_10 0 ⟨6, r⟩ s = stepV s (some 21) (some { v := (s.regs.get undefV 9) }) (Qo Tryz.prog hs ks k6_10 1 ⟨6, r⟩) := oR (by kernel_rfl)
theorem k6_10_1 : Qo Tryz.prog hs ks k6_10 1 ⟨6, r⟩ s = thenC (some 22) s (callS Tryz.prog hs ks 15 [(s.regs.get undefV 21)] s.h) (Qo Tryz.prog hs ks k6_10 2 ⟨6, r⟩) := cR (by kernel_rfl)
theorem k6_10_2 : Qo Tryz.prog hs ks k6_10 2 ⟨6, r⟩ s = stepV s (some 10) (some { v := .ptr s.h.n 0, nw := [.row 0 [.int .i64 (0), .nils]] }) (Qo Tryz.prog hs ks k6_10 3 ⟨6, r⟩) := oR (by kernel_rfl)
theorem k6_10_3 : Qo Tryz.prog hs ks k6_10 3 ⟨6, r⟩ s = stepV s none (xStore Tryz.prog 37 s.h.get (s.regs.get undefV 10) (s.regs.get undefV 22)) (Qo Tryz.prog hs ks k6_10 4 ⟨6, r⟩) := oR (by kernel_rfl)
theorem k6_10_4 : Qo Tryz.prog hs ks k6_10 4 ⟨6, r⟩ s = some [(.normal, s)] := Qo_end (by kernel_rfl) s
noncomputable def k6_12 : Code := codeA k6_11
noncomputable def k6_13 : Code := codeB k6_11
theorem k6_11_c : Qc Tryz.prog hs ks ⟨6, r⟩ k6_11 s = thenV (Qc Tryz.prog hs ks ⟨6, r⟩ k6_12 s) (Qc Tryz.prog hs ks ⟨6, r⟩ k6_13) := Qc_seq (a := k6_12) (b := k6_13) (by kernel_rfl) _ _
noncomputable def k6_12_bef : List Nat := [0, 1, 3, 7, 0, 15, 63, 127]
theorem k6_12_c : Qc Tryz.prog hs ks ⟨6, r⟩ k6_12 s = Qd Tryz.prog hs ks k6_12 k6_12_bef 0 ⟨6, r⟩ [] s := Qc_draw (id := 4) (ops := regOps k6_12) (by kernel_rfl) (by kernel_rfl) (by kernel_rfl) (by kernel_rfl) s
theorem k6_12_0 : Qd Tryz.prog hs ks k6_12 k6_12_bef 0 ⟨6, r⟩ dn s = stepD s (some 23) 0 k6_12_bef dn (some { v := (s.regs.get undefV 9) }) (Qd Tryz.prog hs ks k6_12 k6_12_bef 1 ⟨6, r⟩) := dR (by kernel_rfl)
theorem k6_12_1 : Qd Tryz.prog hs ks k6_12 k6_12_bef 1 ⟨6, r⟩ dn s = stepD s (some 24) 1 k6_12_bef dn (xNilCheck Tryz.prog (s.regs.get undefV 23)) (Qd Tryz.prog hs ks k6_12 k6_12_bef 2 ⟨6, r⟩) := dR (by kernel_rfl)
theorem k6_12_2 : Qd Tryz.prog hs ks k6_12 k6_12_bef 2 ⟨6, r⟩ dn s = stepD s (some 25) 2 k6_12_bef dn (val (addrAdd (s.regs.get undefV 24) 8)) (Qd Tryz.prog hs ks k6_12 k6_12_bef 3 ⟨6, r⟩) := dR (by kernel_rfl)
theorem k6_12_3 : Qd Tryz.prog hs ks k6_12 k6_12_bef 3 ⟨6, r⟩ dn s = stepD s (some 26) 3 k6_12_bef dn (xLoad Tryz.prog 27 s.h.get (s.regs.get undefV 25)) (Qd Tryz.prog hs ks k6_12 k6_12_bef 4 ⟨6, r⟩) := dR (by kernel_rfl)
theorem k6_12_4 : Qd Tryz.prog hs ks k6_12 k6_12_bef 4 ⟨6, r⟩ dn s = stepD s (some 27) 4 k6_12_bef dn (xLoad Tryz.prog 37 s.h.get (s.regs.get undefV 10)) (Qd Tryz.prog hs ks k6_12 k6_12_bef 5 ⟨6, r⟩) := dR (by kernel_rfl)
theorem k6_12_5 : Qd Tryz.prog hs ks k6_12 k6_12_bef 5 ⟨6, r⟩ dn s = stepD s none 5 k6_12_bef dn (xStore Tryz.prog 27 s.h.get (s.regs.get undefV 6) (s.regs.get undefV 26)) (Qd Tryz.prog hs ks k6_12 k6_12_bef 6 ⟨6, r⟩) := dR (by kernel_rfl)
theorem k6_12_6 : Qd Tryz.prog hs ks k6_12 k6_12_bef 6 ⟨6, r⟩ dn s = stepD s none 6 k6_12_bef dn (xStore Tryz.prog 37 s.h.get (s.regs.get undefV 7) (s.regs.get undefV 27)) (Qd Tryz.prog hs ks k6_12 k6_12_bef 7 ⟨6, r⟩) := dR (by kernel_rfl)
theorem k6_12_7 : Qd Tryz.prog hs ks k6_12 k6_12_bef 7 ⟨6, r⟩ dn s = stepD s (some 8) 7 k6_12_bef dn (some { v := (.int .i64 (0)) }) (Qd Tryz.prog hs ks k6_12 k6_12_bef 8 ⟨6, r⟩) := dR (by kernel_rfl)
theorem k6_12_8 : Qd Tryz.prog hs ks k6_12 k6_12_bef 8 ⟨6, r⟩ dn s = some [(.normal, s)] := Qd_end (by kernel_rfl) dn s
theorem k6_13_c : Qc Tryz.prog hs ks ⟨6, r⟩ k6_13 s = some [(.ret, s)] := Qc_ret (by kernel_rfl) _ _
theorem k6_7_c : Qc Tryz.prog hs ks ⟨6, r⟩ k6_7 s = some [(.normal, s)] := Qc_skip (by kernel_rfl) _ _
noncomputable def k6_14 : Code := codeA k6_3
noncomputable def k6_15 : Code := codeB k6_3
theorem k6_3_c : Qc Tryz.prog hs ks ⟨6, r⟩ k6_3 s = thenV (Qc Tryz.prog hs ks ⟨6, r⟩ k6_14 s) (Qc Tryz.prog hs ks ⟨6, r⟩ k6_15) := Qc_seq (a := k6_14) (b := k6_15) (by kernel_rfl) _ _
theorem k6_14_c : Qc Tryz.prog hs ks ⟨6, r⟩ k6_14 s = Qo Tryz.prog hs ks k6_14 0 ⟨6, r⟩ s := Qc_region (id := 5) (ops := regOps k6_14) (by kernel_rfl) (by kernel_rfl) s
theorem k6_14_0 : Qo Tryz.prog hs ks k6_14 0 ⟨6, r⟩ s = stepV s (some 11) (some { v := .ptr s.h.n 0, nw := [.row 0 [.int .i64 (0), .nils]] }) (Qo Tryz.prog hs ks k6_14 1 ⟨6, r⟩) := oR (by kernel_rfl)
theorem k6_14_1 : Qo Tryz.prog hs ks k6_14 1 ⟨6, r⟩ s = some [(.normal, s)] := Qo_end (by kernel_rfl) s
noncomputable def k6_16 : Code := codeA k6_15
noncomputable def k6_17 : Code := codeB k6_15
theorem k6_15_c : Qc Tryz.prog hs ks ⟨6, r⟩ k6_15 s = thenV (Qc Tryz.prog hs ks ⟨6, r⟩ k6_16 s) (Qc Tryz.prog hs ks ⟨6, r⟩ k6_17) := Qc_seq (a := k6_16) (b := k6_17) (by kernel_rfl) _ _
noncomputable def k6_18 : Code := codeA k6_16
noncomputable def k6_19 : Code := codeB k6_16
theorem k6_16_c : Qc Tryz.prog hs ks ⟨6, r⟩ k6_16 s = thenV (Qc Tryz.prog hs ks ⟨6, r⟩ k6_18 s) (Qc Tryz.prog hs ks ⟨6, r⟩ k6_19) := Qc_seq (a := k6_18) (b := k6_19) (by kernel_rfl) _ _
theorem k6_18_c : Qc Tryz.prog hs ks ⟨6, r⟩ k6_18 s = Qo Tryz.prog hs ks k6_18 0 ⟨6, r⟩ s := Qc_region (id := 6) (ops := regOps k6_18) (by kernel_rfl) (by kernel_rfl) s
theorem k6_18_0 : Qo Tryz.prog hs ks k6_18 0 ⟨6, r⟩ s = stepV s (some 28) (val (addrAdd (s.regs.get undefV 5) 1)) (Qo Tryz.prog hs ks k6_18 1 ⟨6, r⟩) := oR (by kernel_rfl)
theorem k6_18_1 : Qo Tryz.prog hs ks k6_18 1 ⟨6, r⟩ s = stepV s (some 29) (xLoad Tryz.prog 28 s.h.get (s.regs.get undefV 28)) (Qo Tryz.prog hs ks k6_18 2 ⟨6, r⟩) := oR (by kernel_rfl)
theorem k6_18_2 : Qo Tryz.prog hs ks k6_18 2 ⟨6, r⟩ s = stepV s (some 30) (builtinV Tryz.prog false s.h.get s.h.n .len [28] [(s.regs.get undefV 29)]) (Qo Tryz.prog hs ks k6_18 3 ⟨6, r⟩) := oR (by kernel_rfl)
theorem k6_18_3 : Qo Tryz.prog hs ks k6_18 3 ⟨6, r⟩ s = stepV s (some 31) (some { v := (.int .i64 (0)) }) (Qo Tryz.prog hs ks k6_18 4 ⟨6, r⟩) := oR (by kernel_rfl)
theorem k6_18_4 : Qo Tryz.prog hs ks k6_18 4 ⟨6, r⟩ s = some [(.normal, s)] := Qo_end (by kernel_rfl) s
noncomputable def k6_20 : Code := codeA k6_19
theorem k6_19_c : Qc Tryz.prog hs ks ⟨6, r⟩ k6_19 s = blockV 0 (Qc Tryz.prog hs ks ⟨6, r⟩ k6_20 s) := Qc_block (b := k6_20) (by kernel_rfl) _ _
noncomputable def k6_21 : Code := codeA k6_20
theorem k6_20_l : Qc Tryz.prog hs ks ⟨6, r⟩ k6_20 s = thenV (Qc Tryz.prog hs ks ⟨6, r⟩ k6_21 s) (Qc Tryz.prog hs ks ⟨6, r⟩ k6_20) := Qc_loop (b := k6_21) (by kernel_rfl) _ _
noncomputable def k6_22 : Code := codeA k6_21
noncomputable def k6_23 : Code := codeB k6_21
theorem k6_21_c : Qc Tryz.prog hs ks ⟨6, r⟩ k6_21 s = thenV (Qc Tryz.prog hs ks ⟨6, r⟩ k6_22 s) (Qc Tryz.prog hs ks ⟨6, r⟩ k6_23) := Qc_seq (a := k6_22) (b := k6_23) (by kernel_rfl) _ _
theorem k6_22_c : Qc Tryz.prog hs ks ⟨6, r⟩ k6_22 s = Qo Tryz.prog hs ks k6_22 0 ⟨6, r⟩ s := Qc_region (id := 7) (ops := regOps k6_22) (by kernel_rfl) (by kernel_rfl) s
theorem k6_22_0 : Qo Tryz.prog hs ks k6_22 0 ⟨6, r⟩ s = stepV s (some 32) (val (binV Tryz.prog .lss 3 false false (s.regs.get undefV 31) (s.regs.get undefV 30))) (Qo Tryz.prog hs ks k6_22 1 ⟨6, r⟩) := oR (by kernel_rfl)
theorem k6_22_1 : Qo Tryz.prog hs ks k6_22 1 ⟨6, r⟩ s = some [(.normal, s)] := Qo_end (by kernel_rfl) s
noncomputable def k6_24 : Code := codeA k6_23
noncomputable def k6_25 : Code := codeB k6_23
theorem k6_23_c : Qc Tryz.prog hs ks ⟨6, r⟩ k6_23 s = thenV (Qc Tryz.prog hs ks ⟨6, r⟩ k6_24 s) (Qc Tryz.prog hs ks ⟨6, r⟩ k6_25) := Qc_seq (a := k6_24) (b := k6_25) (by kernel_rfl) _ _
noncomputable def k6_26 : Code := codeA k6_24
noncomputable def k6_27 : Code := codeB k6_24
theorem k6_24_c : Qc Tryz.prog hs ks ⟨6, r⟩ k6_24 s = condV (s.regs.get undefV 32) (Qc Tryz.prog hs ks ⟨6, r⟩ k6_26) (Qc Tryz.prog hs ks ⟨6, r⟩ k6_27) s := Qc_cond (t := 32) (a := k6_26) (b := k6_27) (by kernel_rfl) _ _
theorem k6_26_c : Qc Tryz.prog hs ks ⟨6, r⟩ k6_26 s = some [(.normal, s)] := Qc_skip (by kernel_rfl) _ _
theorem k6_27_c : Qc Tryz.prog hs ks ⟨6, r⟩ k6_27 s = some [(.exit 0, s)] := Qc_exit (by kernel_rfl) _ _
noncomputable def k6_28 : Code := codeA k6_25
noncomputable def k6_29 : Code := codeB k6_25
theorem k6_25_c : Qc Tryz.prog hs ks ⟨6, r⟩ k6_25 s = thenV (Qc Tryz.prog hs ks ⟨6, r⟩ k6_28 s) (Qc Tryz.prog hs ks ⟨6, r⟩ k6_29) := Qc_seq (a := k6_28) (b := k6_29) (by kernel_rfl) _ _
noncomputable def k6_30 : Code := codeA k6_28
theorem k6_28_c : Qc Tryz.prog hs ks ⟨6, r⟩ k6_28 s = blockV 1 (Qc Tryz.prog hs ks ⟨6, r⟩ k6_30 s) := Qc_block (b := k6_30) (by kernel_rfl) _ _
noncomputable def k6_31 : Code := codeA k6_30
noncomputable def k6_32 : Code := codeB k6_30
theorem k6_30_c : Qc Tryz.prog hs ks ⟨6, r⟩ k6_30 s = thenV (Qc Tryz.prog hs ks ⟨6, r⟩ k6_31 s) (Qc Tryz.prog hs ks ⟨6, r⟩ k6_32) := Qc_seq (a := k6_31) (b := k6_32) (by kernel_rfl) _ _
theorem k6_31_c : Qc Tryz.prog hs ks ⟨6, r⟩ k6_31 s = Qo Tryz.prog hs ks k6_31 0 ⟨6, r⟩ s := Qc_region (id := 8) (ops := regOps k6_31) (by kernel_rfl) (by kernel_rfl) s
theorem k6_31_0 : Qo Tryz.prog hs ks k6_31 0 ⟨6, r⟩ s = stepV s (some 33) (val (indexAddr Tryz.prog 28 (s.regs.get undefV 29) (s.regs.get undefV 31))) (Qo Tryz.prog hs ks k6_31 1 ⟨6, r⟩) := oR (by kernel_rfl)
theorem k6_31_1 : Qo Tryz.prog hs ks k6_31 1 ⟨6, r⟩ s = stepV s (some 34) (xLoad Tryz.prog 34 s.h.get (s.regs.get undefV 33)) (Qo Tryz.prog hs ks k6_31 2 ⟨6, r⟩) := oR (by kernel_rfl)
theorem k6_31_2 : Qo Tryz.prog hs ks k6_31 2 ⟨6, r⟩ s = stepV s (some 13) (some { v := .ptr s.h.n 0, nw := [.row 0 [.str ⟨#[]⟩, .int .i64 (0)]] }) (Qo Tryz.prog hs ks k6_31 3 ⟨6, r⟩) := oR (by kernel_rfl)
theorem k6_31_3 : Qo Tryz.prog hs ks k6_31 3 ⟨6, r⟩ s = stepV s none (xStore Tryz.prog 34 s.h.get (s.regs.get undefV 13) (s.regs.get undefV 34)) (Qo Tryz.prog hs ks k6_31 4 ⟨6, r⟩) := oR (by kernel_rfl)
theorem k6_31_4 : Qo Tryz.prog hs ks k6_31 4 ⟨6, r⟩ s = some [(.normal, s)] := Qo_end (by kernel_rfl) s
noncomputable def k6_33 : Code := codeA k6_32
noncomputable def k6_34 : Code := codeB k6_32
theorem k6_32_c : Qc Tryz.prog hs ks ⟨6, r⟩ k6_32 s = thenV (Qc Tryz.prog hs ks ⟨6, r⟩ k6_33 s) (Qc Tryz.prog hs ks ⟨6, r⟩ k6_34) := Qc_seq (a := k6_33) (b := k6_34) (by kernel_rfl) _ _
theorem k6_33_c : Qc Tryz.prog hs ks ⟨6, r⟩ k6_33 s = Qo Tryz.prog hs ks k6_33 0 ⟨6, r⟩ s := Qc_region (id := 9) (ops := regOps k6_33) (by kernel_rfl) (by kernel_rfl) s
theorem k6_33_0 : Qo Tryz.prog hs ks k6_33 0 ⟨6, r⟩ s = stepV s (some 36) (some { v := (s.regs.get undefV 0) }) (Qo Tryz.prog hs ks k6_33 1 ⟨6, r⟩) := oR (by kernel_rfl)
theorem k6_33_1 : Qo Tryz.prog hs ks k6_33 1 ⟨6, r⟩ s = stepV s (some 37) (xLoad Tryz.prog 34 s.h.get (s.regs.get undefV 13)) (Qo Tryz.prog hs ks k6_33 2 ⟨6, r⟩) := oR (by kernel_rfl)
theorem k6_33_2 : Qo Tryz.prog hs ks k6_33 2 ⟨6, r⟩ s = thenC (some 38) s (callS Tryz.prog hs ks 16 [(s.regs.get undefV 36), (s.regs.get undefV 37)] s.h) (Qo Tryz.prog hs ks k6_33 3 ⟨6, r⟩) := cR (by kernel_rfl)
theorem k6_33_3 : Qo Tryz.prog hs ks k6_33 3 ⟨6, r⟩ s = stepV s (some 35) (some { v := (s.regs.get undefV 38) }) (Qo Tryz.prog hs ks k6_33 4 ⟨6, r⟩) := oR (by kernel_rfl)
theorem k6_33_4 : Qo Tryz.prog hs ks k6_33 4 ⟨6, r⟩ s = stepV s (some 39) (xExtract (s.regs.get undefV 35) 0) (Qo Tryz.prog hs ks k6_33 5 ⟨6, r⟩) := oR (by kernel_rfl)
theorem k6_33_5 : Qo Tryz.prog hs ks k6_33 5 ⟨6, r⟩ s = stepV s (some 40) (xExtract (s.regs.get undefV 35) 1) (Qo Tryz.prog hs ks k6_33 6 ⟨6, r⟩) := oR (by kernel_rfl)
theorem k6_33_6 : Qo Tryz.prog hs ks k6_33 6 ⟨6, r⟩ s = stepV s (some 14) (some { v := .ptr s.h.n 0, nw := [.row 0 [.int .i64 (0), .nils]] }) (Qo Tryz.prog hs ks k6_33 7 ⟨6, r⟩) := oR (by kernel_rfl)
theorem k6_33_7 : Qo Tryz.prog hs ks k6_33 7 ⟨6, r⟩ s = stepV s none (xStore Tryz.prog 37 s.h.get (s.regs.get undefV 14) (s.regs.get undefV 39)) (Qo Tryz.prog hs ks k6_33 8 ⟨6, r⟩) := oR (by kernel_rfl)
theorem k6_33_8 : Qo Tryz.prog hs ks k6_33 8 ⟨6, r⟩ s = stepV s (some 15) (some { v := (s.regs.get undefV 40) }) (Qo Tryz.prog hs ks k6_33 9 ⟨6, r⟩) := oR (by kernel_rfl)
theorem k6_33_9 : Qo Tryz.prog hs ks k6_33 9 ⟨6, r⟩ s = some [(.normal, s)] := Qo_end (by kernel_rfl) s
noncomputable def k6_35 : Code := codeA k6_34
noncomputable def k6_36 : Code := codeB k6_34
theorem k6_34_c : Qc Tryz.prog hs ks ⟨6, r⟩ k6_34 s = thenV (Qc Tryz.prog hs ks ⟨6, r⟩ k6_35 s) (Qc Tryz.prog hs ks ⟨6, r⟩ k6_36) := Qc_seq (a := k6_35) (b := k6_36) (by kernel_rfl) _ _
noncomputable def k6_37 : Code := codeA k6_35
noncomputable def k6_38 : Code := codeB k6_35
theorem k6_35_c : Qc Tryz.prog hs ks ⟨6, r⟩ k6_35 s = thenV (Qc Tryz.prog hs ks ⟨6, r⟩ k6_37 s) (Qc Tryz.prog hs ks ⟨6, r⟩ k6_38) := Qc_seq (a := k6_37) (b := k6_38) (by kernel_rfl) _ _
theorem k6_37_c : Qc Tryz.prog hs ks ⟨6, r⟩ k6_37 s = Qo Tryz.prog hs ks k6_37 0 ⟨6, r⟩ s := Qc_region (id := 10) (ops := regOps k6_37) (by kernel_rfl) (by kernel_rfl) s
theorem k6_37_0 : Qo Tryz.prog hs ks k6_37 0 ⟨6, r⟩ s = stepV s (some 41) (some { v := (s.regs.get undefV 15) }) (Qo Tryz.prog hs ks k6_37 1 ⟨6, r⟩) := oR (by kernel_rfl)
theorem k6_37_1 : Qo Tryz.prog hs ks k6_37 1 ⟨6, r⟩ s = stepV s (some 42) (val (binV Tryz.prog .neq 38 false true (s.regs.get undefV 41) (.int .i64 (0)))) (Qo Tryz.prog hs ks k6_37 2 ⟨6, r⟩) := oR (by kernel_rfl)
theorem k6_37_2 : Qo Tryz.prog hs ks k6_37 2 ⟨6, r⟩ s = some [(.normal, s)] := Qo_end (by kernel_rfl) s
noncomputable def k6_39 : Code := codeA k6_38
noncomputable def k6_40 : Code := codeB k6_38
theorem k6_38_c : Qc Tryz.prog hs ks ⟨6, r⟩ k6_38 s = condV (s.regs.get undefV 42) (Qc Tryz.prog hs ks ⟨6, r⟩ k6_39) (Qc Tryz.prog hs ks ⟨6, r⟩ k6_40) s := Qc_cond (t := 42) (a := k6_39) (b := k6_40) (by kernel_rfl) _ _
noncomputable def k6_41 : Code := codeA k6_39
noncomputable def k6_42 : Code := codeB k6_39
theorem k6_39_c : Qc Tryz.prog hs ks ⟨6, r⟩ k6_39 s = thenV (Qc Tryz.prog hs ks ⟨6, r⟩ k6_41 s) (Qc Tryz.prog hs ks ⟨6, r⟩ k6_42) := Qc_seq (a := k6_41) (b := k6_42) (by kernel_rfl) _ _
theorem k6_41_c : Qc Tryz.prog hs ks ⟨6, r⟩ k6_41 s = Qo Tryz.prog hs ks k6_41 0 ⟨6, r⟩ s := Qc_region (id := 11) (ops := regOps k6_41) (by kernel_rfl) (by kernel_rfl) s
theorem k6_41_0 : Qo Tryz.prog hs ks k6_41 0 ⟨6, r⟩ s = stepV s (some 43) (val (build Tryz.prog 27 [])) (Qo Tryz.prog hs ks k6_41 1 ⟨6, r⟩) := oR (by kernel_rfl)
theorem k6_41_1 : Qo Tryz.prog hs ks k6_41 1 ⟨6, r⟩ s = stepV s (some 44) (val (build Tryz.prog 37 [])) (Qo Tryz.prog hs ks k6_41 2 ⟨6, r⟩) := oR (by kernel_rfl)
theorem k6_41_2 : Qo Tryz.prog hs ks k6_41 2 ⟨6, r⟩ s = stepV s (some 45) (some { v := (s.regs.get undefV 15) }) (Qo Tryz.prog hs ks k6_41 3 ⟨6, r⟩) := oR (by kernel_rfl)
theorem k6_41_3 : Qo Tryz.prog hs ks k6_41 3 ⟨6, r⟩ s = stepV s none (xStore Tryz.prog 27 s.h.get (s.regs.get undefV 6) (s.regs.get undefV 43)) (Qo Tryz.prog hs ks k6_41 4 ⟨6, r⟩) := oR (by kernel_rfl)
theorem k6_41_4 : Qo Tryz.prog hs ks k6_41 4 ⟨6, r⟩ s = stepV s none (xStore Tryz.prog 37 s.h.get (s.regs.get undefV 7) (s.regs.get undefV 44)) (Qo Tryz.prog hs ks k6_41 5 ⟨6, r⟩) := oR (by kernel_rfl)
theorem k6_41_5 : Qo Tryz.prog hs ks k6_41 5 ⟨6, r⟩ s = stepV s (some 8) (some { v := (s.regs.get undefV 45) }) (Qo Tryz.prog hs ks k6_41 6 ⟨6, r⟩) := oR (by kernel_rfl)
theorem k6_41_6 : Qo Tryz.prog hs ks k6_41 6 ⟨6, r⟩ s = some [(.normal, s)] := Qo_end (by kernel_rfl) s
theorem k6_42_c : Qc Tryz.prog hs ks ⟨6, r⟩ k6_42 s = some [(.ret, s)] := Qc_ret (by kernel_rfl) _ _
theorem k6_40_c : Qc Tryz.prog hs ks ⟨6, r⟩ k6_40 s = some [(.normal, s)] := Qc_skip (by kernel_rfl) _ _
theorem k6_36_c : Qc Tryz.prog hs ks ⟨6, r⟩ k6_36 s = Qo Tryz.prog hs ks k6_36 0 ⟨6, r⟩ s := Qc_region (id := 12) (ops := regOps k6_36) (by kernel_rfl) (by kernel_rfl) s
theorem k6_36_0 : Qo Tryz.prog hs ks k6_36 0 ⟨6, r⟩ s = stepV s (some 47) (xLoad Tryz.prog 37 s.h.get (s.regs.get undefV 11)) (Qo Tryz.prog hs ks k6_36 1 ⟨6, r⟩) := oR (by kernel_rfl)
theorem k6_36_1 : Qo Tryz.prog hs ks k6_36 1 ⟨6, r⟩ s = stepV s (some 48) (xLoad Tryz.prog 37 s.h.get (s.regs.get undefV 14)) (Qo Tryz.prog hs ks k6_36 2 ⟨6, r⟩) := oR (by kernel_rfl)
theorem k6_36_2 : Qo Tryz.prog hs ks k6_36 2 ⟨6, r⟩ s = thenC (some 49) s (callS Tryz.prog hs ks 17 [(s.regs.get undefV 47), (s.regs.get undefV 48)] s.h) (Qo Tryz.prog hs ks k6_36 3 ⟨6, r⟩) := cR (by kernel_rfl)
theorem k6_36_3 : Qo Tryz.prog hs ks k6_36 3 ⟨6, r⟩ s = stepV s (some 46) (some { v := (s.regs.get undefV 49) }) (Qo Tryz.prog hs ks k6_36 4 ⟨6, r⟩) := oR (by kernel_rfl)
theorem k6_36_4 : Qo Tryz.prog hs ks k6_36 4 ⟨6, r⟩ s = stepV s (some 50) (xExtract (s.regs.get undefV 46) 0) (Qo Tryz.prog hs ks k6_36 5 ⟨6, r⟩) := oR (by kernel_rfl)
theorem k6_36_5 : Qo Tryz.prog hs ks k6_36 5 ⟨6, r⟩ s = stepV s (some 51) (xExtract (s.regs.get undefV 46) 1) (Qo Tryz.prog hs ks k6_36 6 ⟨6, r⟩) := oR (by kernel_rfl)
theorem k6_36_6 : Qo Tryz.prog hs ks k6_36 6 ⟨6, r⟩ s = stepV s none (xStore Tryz.prog 37 s.h.get (s.regs.get undefV 11) (s.regs.get undefV 50)) (Qo Tryz.prog hs ks k6_36 7 ⟨6, r⟩) := oR (by kernel_rfl)
theorem k6_36_7 : Qo Tryz.prog hs ks k6_36 7 ⟨6, r⟩ s = some [(.normal, s)] := Qo_end (by kernel_rfl) s
theorem k6_29_c : Qc Tryz.prog hs ks ⟨6, r⟩ k6_29 s = Qo Tryz.prog hs ks k6_29 0 ⟨6, r⟩ s := Qc_region (id := 13) (ops := regOps k6_29) (by kernel_rfl) (by kernel_rfl) s
theorem k6_29_0 : Qo Tryz.prog hs ks k6_29 0 ⟨6, r⟩ s = stepV s (some 52) (val (binV Tryz.prog .add 3 false true (s.regs.get undefV 31) (.int .i64 (1)))) (Qo Tryz.prog hs ks k6_29 1 ⟨6, r⟩) := oR (by kernel_rfl)
theorem k6_29_1 : Qo Tryz.prog hs ks k6_29 1 ⟨6, r⟩ s = stepV s (some 31) (some { v := (s.regs.get undefV 52) }) (Qo Tryz.prog hs ks k6_29 2 ⟨6, r⟩) := oR (by kernel_rfl)
theorem k6_29_2 : Qo Tryz.prog hs ks k6_29 2 ⟨6, r⟩ s = some [(.normal, s)] := Qo_end (by kernel_rfl) s
noncomputable def k6_43 : Code := codeA k6_17
noncomputable def k6_44 : Code := codeB k6_17
theorem k6_17_c : Qc Tryz.prog hs ks ⟨6, r⟩ k6_17 s = thenV (Qc Tryz.prog hs ks ⟨6, r⟩ k6_43 s) (Qc Tryz.prog hs ks ⟨6, r⟩ k6_44) := Qc_seq (a := k6_43) (b := k6_44) (by kernel_rfl) _ _
noncomputable def k6_43_bef : List Nat := [0, 0, 1, 7, 15]
theorem k6_43_c : Qc Tryz.prog hs ks ⟨6, r⟩ k6_43 s = Qd Tryz.prog hs ks k6_43 k6_43_bef 0 ⟨6, r⟩ [] s := Qc_draw (id := 14) (ops := regOps k6_43) (by kernel_rfl) (by kernel_rfl) (by kernel_rfl) (by kernel_rfl) s
theorem k6_43_0 : Qd Tryz.prog hs ks k6_43 k6_43_bef 0 ⟨6, r⟩ dn s = stepD s (some 53) 0 k6_43_bef dn (xLoad Tryz.prog 27 s.h.get (s.regs.get undefV 4)) (Qd Tryz.prog hs ks k6_43 k6_43_bef 1 ⟨6, r⟩) := dR (by kernel_rfl)
theorem k6_43_1 : Qd Tryz.prog hs ks k6_43 k6_43_bef 1 ⟨6, r⟩ dn s = stepD s (some 54) 1 k6_43_bef dn (xLoad Tryz.prog 37 s.h.get (s.regs.get undefV 11)) (Qd Tryz.prog hs ks k6_43 k6_43_bef 2 ⟨6, r⟩) := dR (by kernel_rfl)
theorem k6_43_2 : Qd Tryz.prog hs ks k6_43 k6_43_bef 2 ⟨6, r⟩ dn s = stepD s none 2 k6_43_bef dn (xStore Tryz.prog 27 s.h.get (s.regs.get undefV 6) (s.regs.get undefV 53)) (Qd Tryz.prog hs ks k6_43 k6_43_bef 3 ⟨6, r⟩) := dR (by kernel_rfl)
theorem k6_43_3 : Qd Tryz.prog hs ks k6_43 k6_43_bef 3 ⟨6, r⟩ dn s = stepD s none 3 k6_43_bef dn (xStore Tryz.prog 37 s.h.get (s.regs.get undefV 7) (s.regs.get undefV 54)) (Qd Tryz.prog hs ks k6_43 k6_43_bef 4 ⟨6, r⟩) := dR (by kernel_rfl)
theorem k6_43_4 : Qd Tryz.prog hs ks k6_43 k6_43_bef 4 ⟨6, r⟩ dn s = stepD s (some 8) 4 k6_43_bef dn (some { v := (.int .i64 (0)) }) (Qd Tryz.prog hs ks k6_43 k6_43_bef 5 ⟨6, r⟩) := dR (by kernel_rfl)
theorem k6_43_5 : Qd Tryz.prog hs ks k6_43 k6_43_bef 5 ⟨6, r⟩ dn s = some [(.normal, s)] := Qd_end (by kernel_rfl) dn s
theorem k6_44_c : Qc Tryz.prog hs ks ⟨6, r⟩ k6_44 s = some [(.ret, s)] := Qc_ret (by kernel_rfl) _ _
/-! function 7 -/
noncomputable def k7 : Code := Tryz.f7.body.getD .skip
theorem k7_fun (args : List V) (ha : args.length ≤ 89) (h : H) : (EV Tryz.prog hs ks).call 7 args h = endsV Tryz.prog hs ks Tryz.f7 (Qc Tryz.prog hs ks ⟨7, none⟩ k7 (S 89 (setF args 0 fun _ => undefV) [] h)) := EV_fun Tryz.func7 (by kernel_rfl) (by kernel_rfl) (by decide) ha h
theorem k7_ret (f : Nat → V) (h : H) : endsV Tryz.prog hs ks Tryz.f7 (some [(.ret, S 89 f [] h)]) = resV (resultVs Tryz.prog (S 89 f [] h) [.cell 6 27, .cell 7 37, .tmp 8]) h := ends_one (by kernel_rfl) (Or.inl rfl) _ _
theorem k7_nrm (f : Nat → V) (h : H) : endsV Tryz.prog hs ks Tryz.f7 (some [(.normal, S 89 f [] h)]) = resV (resultVs Tryz.prog (S 89 f [] h) [.cell 6 27, .cell 7 37, .tmp 8]) h := ends_one (by kernel_rfl) (Or.inr rfl) _ _
noncomputable def k7_0 : Code := codeA k7
noncomputable def k7_1 : Code := codeB k7
theorem k7_c : Qc Tryz.prog hs ks ⟨7, r⟩ k7 s = thenV (Qc Tryz.prog hs ks ⟨7, r⟩ k7_0 s) (Qc Tryz.prog hs ks ⟨7, r⟩ k7_1) := Qc_seq (a := k7_0) (b := k7_1) (by kernel_rfl) _ _
theorem k7_0_c : Qc Tryz.prog hs ks ⟨7, r⟩ k7_0 s = Qo Tryz.prog hs ks k7_0 0 ⟨7, r⟩ s := Qc_region (id := 0) (ops := regOps k7_0) (by kernel_rfl) (by kernel_rfl) s
theorem k7_0_0 : Qo Tryz.prog hs ks k7_0 0 ⟨7, r⟩ s = stepV s (some 4) (some { v := .ptr s.h.n 0, nw := [.row 0 (V.cells (s.regs.get undefV 1))] }) (Qo Tryz.prog hs ks k7_0 1 ⟨7, r⟩) := oR (by kernel_rfl)
theorem k7_0_1 : Qo Tryz.prog hs ks k7_0 1 ⟨7, r⟩ s = stepV s (some 5) (some { v := .ptr s.h.n 0, nw := [.row 0 (V.cells (s.regs.get undefV 2))] }) (Qo Tryz.prog hs ks k7_0 2 ⟨7, r⟩) := oR (by kernel_rfl)
theorem k7_0_2 : Qo Tryz.prog hs ks k7_0 2 ⟨7, r⟩ s = stepV s (some 6) (some { v := .ptr s.h.n 0, nw := [.row 0 [.nils, .nils, .nils, .int .i64 (0)]] }) (Qo Tryz.prog hs ks k7_0 3 ⟨7, r⟩) := oR (by kernel_rfl)
theorem k7_0_3 : Qo Tryz.prog hs ks k7_0 3 ⟨7, r⟩ s = stepV s (some 7) (some { v := .ptr s.h.n 0, nw := [.row 0 [.int .i64 (0), .nils]] }) (Qo Tryz.prog hs ks k7_0 4 ⟨7, r⟩) := oR (by kernel_rfl)
theorem k7_0_4 : Qo Tryz.prog hs ks k7_0 4 ⟨7, r⟩ s = stepV s (some 8) (some { v := (.int .i64 (0)) }) (Qo Tryz.prog hs ks k7_0 5 ⟨7, r⟩) := oR (by kernel_rfl)
theorem k7_0_5 : Qo Tryz.prog hs ks k7_0 5 ⟨7, r⟩ s = some [(.normal, s)] := Qo_end (by kernel_rfl) s
noncomputable def k7_2 : Code := codeA k7_1
noncomputable def k7_3 : Code := codeB k7_1
theorem k7_1_c : Qc Tryz.prog hs ks ⟨7, r⟩ k7_1 s = thenV (Qc Tryz.prog hs ks ⟨7, r⟩ k7_2 s) (Qc Tryz.prog hs ks ⟨7, r⟩ k7_3) := Qc_seq (a := k7_2) (b := k7_3) (by kernel_rfl) _ _
noncomputable def k7_4 : Code := codeA k7_2
noncomputable def k7_5 : Code := codeB k7_2
theorem k7_2_c : Qc Tryz.prog hs ks ⟨7, r⟩ k7_2 s = thenV (Qc Tryz.prog hs ks ⟨7, r⟩ k7_4 s) (Qc Tryz.prog hs ks ⟨7, r⟩ k7_5) := Qc_seq (a := k7_4) (b := k7_5) (by kernel_rfl) _ _
theorem k7_4_c : Qc Tryz.prog hs ks ⟨7, r⟩ k7_4 s = Qo Tryz.prog hs ks k7_4 0 ⟨7, r⟩ s := Qc_region (id := 1) (ops := regOps k7_4) (by kernel_rfl) (by kernel_rfl) s
theorem k7_4_0 : Qo Tryz.prog hs ks k7_4 0 ⟨7, r⟩ s = stepV s (some 15) (val (addrAdd (s.regs.get undefV 5) 0)) (Qo Tryz.prog hs ks k7_4 1 ⟨7, r⟩) := oR (by kernel_rfl)
theorem k7_4_1 : Qo Tryz.prog hs ks k7_4 1 ⟨7, r⟩ s = stepV s (some 16) (xLoad Tryz.prog 4 s.h.get (s.regs.get undefV 15)) (Qo Tryz.prog hs ks k7_4 2 ⟨7, r⟩) := oR (by kernel_rfl)
theorem k7_4_2 : Qo Tryz.prog hs ks k7_4 2 ⟨7, r⟩ s = some [(.normal, s)] := Qo_end (by kernel_rfl) s
noncomputable def k7_6 : Code := codeA k7_5
noncomputable def k7_7 : Code := codeB k7_5
theorem k7_5_c : Qc Tryz.prog hs ks ⟨7, r⟩ k7_5 s = condV (s.regs.get undefV 16) (Qc Tryz.prog hs ks ⟨7, r⟩ k7_6) (Qc Tryz.prog hs ks ⟨7, r⟩ k7_7) s := Qc_cond (t := 16) (a := k7_6) (b := k7_7) (by kernel_rfl) _ _
noncomputable def k7_8 : Code := codeA k7_6
noncomputable def k7_9 : Code := codeB k7_6
theorem k7_6_c : Qc Tryz.prog hs ks ⟨7, r⟩ k7_6 s = thenV (Qc Tryz.prog hs ks ⟨7, r⟩ k7_8 s) (Qc Tryz.prog hs ks ⟨7, r⟩ k7_9) := Qc_seq (a := k7_8) (b := k7_9) (by kernel_rfl) _ _
theorem k7_8_c : Qc Tryz.prog hs ks ⟨7, r⟩ k7_8 s = Qo Tryz.prog hs ks k7_8 0 ⟨7, r⟩ s := Qc_region (id := 2) (ops := regOps k7_8) (by kernel_rfl) (by kernel_rfl) s
theorem k7_8_0 : Qo Tryz.prog hs ks k7_8 0 ⟨7, r⟩ s = stepV s (some 17) (val (addrAdd (s.regs.get undefV 4) 3)) (Qo Tryz.prog hs ks k7_8 1 ⟨7, r⟩) := oR (by kernel_rfl)
theorem k7_8_1 : Qo Tryz.prog hs ks k7_8 1 ⟨7, r⟩ s = stepV s (some 18) (xLoad Tryz.prog 3 s.h.get (s.regs.get undefV 17)) (Qo Tryz.prog hs ks k7_8 2 ⟨7, r⟩) := oR (by kernel_rfl)
theorem k7_8_2 : Qo Tryz.prog hs ks k7_8 2 ⟨7, r⟩ s = stepV s (some 19) (val (binV Tryz.prog .add 3 false true (s.regs.get undefV 18) (.int .i64 (1)))) (Qo Tryz.prog hs ks k7_8 3 ⟨7, r⟩) := oR (by kernel_rfl)
theorem k7_8_3 : Qo Tryz.prog hs ks k7_8 3 ⟨7, r⟩ s = stepV s (some 20) (val (addrAdd (s.regs.get undefV 4) 3)) (Qo Tryz.prog hs ks k7_8 4 ⟨7, r⟩) := oR (by kernel_rfl)
theorem k7_8_4 : Qo Tryz.prog hs ks k7_8 4 ⟨7, r⟩ s = stepV s none (xStore Tryz.prog 3 s.h.get (s.regs.get undefV 20) (s.regs.get undefV 19)) (Qo Tryz.prog hs ks k7_8 5 ⟨7, r⟩) := oR (by kernel_rfl)
theorem k7_8_5 : Qo Tryz.prog hs ks k7_8 5 ⟨7, r⟩ s = some [(.normal, s)] := Qo_end (by kernel_rfl) s
noncomputable def k7_10 : Code := codeA k7_9
noncomputable def k7_11 : Code := codeB k7_9
theorem k7_9_c : Qc Tryz.prog hs ks ⟨7, r⟩ k7_9 s = thenV (Qc Tryz.prog hs ks ⟨7, r⟩ k7_10 s) (Qc Tryz.prog hs ks ⟨7, r⟩ k7_11) := Qc_seq (a := k7_10) (b := k7_11) (by kernel_rfl) _ _
noncomputable def k7_10_bef : List Nat := [0, 0, 2, 6, 14, 30, 62, 1, 255, 511]
theorem k7_10_c : Qc Tryz.prog hs ks ⟨7, r⟩ k7_10 s = Qd Tryz.prog hs ks k7_10 k7_10_bef 0 ⟨7, r⟩ [] s := Qc_draw (id := 3) (ops := regOps k7_10) (by kernel_rfl) (by kernel_rfl) (by kernel_rfl) (by kernel_rfl) s
theorem k7_10_0 : Qd Tryz.prog hs ks k7_10 k7_10_bef 0 ⟨7, r⟩ dn s = stepD s (some 21) 0 k7_10_bef dn (xLoad Tryz.prog 27 s.h.get (s.regs.get undefV 4)) (Qd Tryz.prog hs ks k7_10 k7_10_bef 1 ⟨7, r⟩) := dR (by kernel_rfl)
theorem k7_10_1 : Qd Tryz.prog hs ks k7_10 k7_10_bef 1 ⟨7, r⟩ dn s = stepD s (some 22) 1 k7_10_bef dn (val (addrAdd (s.regs.get undefV 4) 3)) (Qd Tryz.prog hs ks k7_10 k7_10_bef 2 ⟨7, r⟩) := dR (by kernel_rfl)
theorem k7_10_2 : Qd Tryz.prog hs ks k7_10 k7_10_bef 2 ⟨7, r⟩ dn s = stepD s (some 23) 2 k7_10_bef dn (xLoad Tryz.prog 3 s.h.get (s.regs.get undefV 22)) (Qd Tryz.prog hs ks k7_10 k7_10_bef 3 ⟨7, r⟩) := dR (by kernel_rfl)
theorem k7_10_3 : Qd Tryz.prog hs ks k7_10 k7_10_bef 3 ⟨7, r⟩ dn s = stepD s (some 24) 3 k7_10_bef dn (xUn .neg (s.regs.get undefV 23)) (Qd Tryz.prog hs ks k7_10 k7_10_bef 4 ⟨7, r⟩) := dR (by kernel_rfl)
theorem k7_10_4 : Qd Tryz.prog hs ks k7_10 k7_10_bef 4 ⟨7, r⟩ dn s = stepD s (some 25) 4 k7_10_bef dn (val (build Tryz.prog 74 [(0, (s.regs.get undefV 24))])) (Qd Tryz.prog hs ks k7_10 k7_10_bef 5 ⟨7, r⟩) := dR (by kernel_rfl)
theorem k7_10_5 : Qd Tryz.prog hs ks k7_10 k7_10_bef 5 ⟨7, r⟩ dn s = stepD s (some 26) 5 k7_10_bef dn (litS Tryz.prog false 35 1 [(0, (s.regs.get undefV 25))] s.h.n) (Qd Tryz.prog hs ks k7_10 k7_10_bef 6 ⟨7, r⟩) := dR (by kernel_rfl)
theorem k7_10_6 : Qd Tryz.prog hs ks k7_10 k7_10_bef 6 ⟨7, r⟩ dn s = stepD s (some 27) 6 k7_10_bef dn (val (build Tryz.prog 37 [(1, (s.regs.get undefV 26))])) (Qd Tryz.prog hs ks k7_10 k7_10_bef 7 ⟨7, r⟩) := dR (by kernel_rfl)
theorem k7_10_7 : Qd Tryz.prog hs ks k7_10 k7_10_bef 7 ⟨7, r⟩ dn s = stepD s none 7 k7_10_bef dn (xStore Tryz.prog 27 s.h.get (s.regs.get undefV 6) (s.regs.get undefV 21)) (Qd Tryz.prog hs ks k7_10 k7_10_bef 8 ⟨7, r⟩) := dR (by kernel_rfl)
theorem k7_10_8 : Qd Tryz.prog hs ks k7_10 k7_10_bef 8 ⟨7, r⟩ dn s = stepD s none 8 k7_10_bef dn (xStore Tryz.prog 37 s.h.get (s.regs.get undefV 7) (s.regs.get undefV 27)) (Qd Tryz.prog hs ks k7_10 k7_10_bef 9 ⟨7, r⟩) := dR (by kernel_rfl)
theorem k7_10_9 : Qd Tryz.prog hs ks k7_10 k7_10_bef 9 ⟨7, r⟩ dn s = stepD s (some 8) 9 k7_10_bef dn (some { v := (.int .i64 (0)) }) (Qd Tryz.prog hs ks k7_10 k7_10_bef 10 ⟨7, r⟩) := dR (by kernel_rfl)
theorem k7_10_10 : Qd Tryz.prog hs ks k7_10 k7_10_bef 10 ⟨7, r⟩ dn s = some [(.normal, s)] := Qd_end (by kernel_rfl) dn s
theorem k7_11_c : Qc Tryz.prog hs ks ⟨7, r⟩ k7_11 s = some [(.ret, s)] := Qc_ret (by kernel_rfl) _ _
theorem k7_7_c : Qc Tryz.prog hs ks ⟨7, r⟩ k7_7 s = some [(.normal, s)] := Qc_skip (by kernel_rfl) _ _
noncomputable def k7_12 : Code := codeA k7_3
noncomputable def k7_13 : Code := codeB k7_3
theorem k7_3_c : Qc Tryz.prog hs ks ⟨7, r⟩ k7_3 s = thenV (Qc Tryz.prog hs ks ⟨7, r⟩ k7_12 s) (Qc Tryz.prog hs ks ⟨7, r⟩ k7_13) := Qc_seq (a := k7_12) (b := k7_13) (by kernel_rfl) _ _
theorem k7_12_c : Qc Tryz.prog hs ks ⟨7, r⟩ k7_12 s = Qo Tryz.prog hs ks k7_12 0 ⟨7, r⟩ s := Qc_region (id := 4) (ops := regOps k7_12) (by kernel_rfl) (by kernel_rfl) s
theorem k7_12_0 : Qo Tryz.prog hs ks k7_12 0 ⟨7, r⟩ s = stepV s (some 28) (val (build Tryz.prog 37 [])) (Qo Tryz.prog hs ks k7_12 1 ⟨7, r⟩) := oR (by kernel_rfl)
theorem k7_12_1 : Qo Tryz.prog hs ks k7_12 1 ⟨7, r⟩ s = stepV s (some 9) (some { v := .ptr s.h.n 0, nw := [.row 0 [.int .i64 (0), .nils]] }) (Qo Tryz.prog hs ks k7_12 2 ⟨7, r⟩) := oR (by kernel_rfl)
theorem k7_12_2 : Qo Tryz.prog hs ks k7_12 2 ⟨7, r⟩ s = stepV s none (xStore Tryz.prog 37 s.h.get (s.regs.get undefV 9) (s.regs.get undefV 28)) (Qo Tryz.prog hs ks k7_12 3 ⟨7, r⟩) := oR (by kernel_rfl)
theorem k7_12_3 : Qo Tryz.prog hs ks k7_12 3 ⟨7, r⟩ s = some [(.normal, s)] := Qo_end (by kernel_rfl) s
noncomputable def k7_14 : Code := codeA k7_13
noncomputable def k7_15 : Code := codeB k7_13
theorem k7_13_c : Qc Tryz.prog hs ks ⟨7, r⟩ k7_13 s = thenV (Qc Tryz.prog hs ks ⟨7, r⟩ k7_14 s) (Qc Tryz.prog hs ks ⟨7, r⟩ k7_15) := Qc_seq (a := k7_14) (b := k7_15) (by kernel_rfl) _ _
noncomputable def k7_16 : Code := codeA k7_14
noncomputable def k7_17 : Code := codeB k7_14
theorem k7_14_c : Qc Tryz.prog hs ks ⟨7, r⟩ k7_14 s = thenV (Qc Tryz.prog hs ks ⟨7, r⟩ k7_16 s) (Qc Tryz.prog hs ks ⟨7, r⟩ k7_17) := Qc_seq (a := k7_16) (b := k7_17) (by kernel_rfl) _ _
theorem k7_16_c : Qc Tryz.prog hs ks ⟨7, r⟩ k7_16 s = Qo Tryz.prog hs ks k7_16 0 ⟨7, r⟩ s := Qc_region (id := 5) (ops := regOps k7_16) (by kernel_rfl) (by kernel_rfl) s
theorem k7_16_0 : Qo Tryz.prog hs ks k7_16 0 ⟨7, r⟩ s = stepV s (some 10) (some { v := (.int .i64 (0)) }) (Qo Tryz.prog hs ks k7_16 1 ⟨7, r⟩) := oR (by kernel_rfl)
theorem k7_16_1 : Qo Tryz.prog hs ks k7_16 1 ⟨7, r⟩ s = some [(.normal, s)] := Qo_end (by kernel_rfl) s
noncomputable def k7_18 : Code := codeA k7_17
theorem k7_17_c : Qc Tryz.prog hs ks ⟨7, r⟩ k7_17 s = blockV 0 (Qc Tryz.prog hs ks ⟨7, r⟩ k7_18 s) := Qc_block (b := k7_18) (by kernel_rfl) _ _
noncomputable def k7_19 : Code := codeA k7_18
theorem k7_18_l : Qc Tryz.prog hs ks ⟨7, r⟩ k7_18 s = thenV (Qc Tryz.prog hs ks ⟨7, r⟩ k7_19 s) (Qc Tryz.prog hs ks ⟨7, r⟩ k7_18) := Qc_loop (b := k7_19) (by kernel_rfl) _ _
noncomputable def k7_20 : Code := codeA k7_19
noncomputable def k7_21 : Code := codeB k7_19
theorem k7_19_c : Qc Tryz.prog hs ks ⟨7, r⟩ k7_19 s = thenV (Qc Tryz.prog hs ks ⟨7, r⟩ k7_20 s) (Qc Tryz.prog hs ks ⟨7, r⟩ k7_21) := Qc_seq (a := k7_20) (b := k7_21) (by kernel_rfl) _ _
noncomputable def k7_22 : Code := codeA k7_20
noncomputable def k7_23 : Code := codeB k7_20
theorem k7_20_c : Qc Tryz.prog hs ks ⟨7, r⟩ k7_20 s = thenV (Qc Tryz.prog hs ks ⟨7, r⟩ k7_22 s) (Qc Tryz.prog hs ks ⟨7, r⟩ k7_23) := Qc_seq (a := k7_22) (b := k7_23) (by kernel_rfl) _ _
theorem k7_22_c : Qc Tryz.prog hs ks ⟨7, r⟩ k7_22 s = Qo Tryz.prog hs ks k7_22 0 ⟨7, r⟩ s := Qc_region (id := 6) (ops := regOps k7_22) (by kernel_rfl) (by kernel_rfl) s
theorem k7_22_0 : Qo Tryz.prog hs ks k7_22 0 ⟨7, r⟩ s = stepV s (some 29) (some { v := (s.regs.get undefV 10) }) (Qo Tryz.prog hs ks k7_22 1 ⟨7, r⟩) := oR (by kernel_rfl)
theorem k7_22_1 : Qo Tryz.prog hs ks k7_22 1 ⟨7, r⟩ s = stepV s (some 30) (val (addrAdd (s.regs.get undefV 5) 1)) (Qo Tryz.prog hs ks k7_22 2 ⟨7, r⟩) := oR (by kernel_rfl)
theorem k7_22_2 : Qo Tryz.prog hs ks k7_22 2 ⟨7, r⟩ s = stepV s (some 31) (xLoad Tryz.prog 28 s.h.get (s.regs.get undefV 30)) (Qo Tryz.prog hs ks k7_22 3 ⟨7, r⟩) := oR (by kernel_rfl)
theorem k7_22_3 : Qo Tryz.prog hs ks k7_22 3 ⟨7, r⟩ s = stepV s (some 32) (builtinV Tryz.prog false s.h.get s.h.n .len [28] [(s.regs.get undefV 31)]) (Qo Tryz.prog hs ks k7_22 4 ⟨7, r⟩) := oR (by kernel_rfl)
theorem k7_22_4 : Qo Tryz.prog hs ks k7_22 4 ⟨7, r⟩ s = stepV s (some 33) (val (binV Tryz.prog .lss 3 false false (s.regs.get undefV 29) (s.regs.get undefV 32))) (Qo Tryz.prog hs ks k7_22 5 ⟨7, r⟩) := oR (by kernel_rfl)
theorem k7_22_5 : Qo Tryz.prog hs ks k7_22 5 ⟨7, r⟩ s = some [(.normal, s)] := Qo_end (by kernel_rfl) s
noncomputable def k7_24 : Code := codeA k7_23
noncomputable def k7_25 : Code := codeB k7_23
theorem k7_23_c : Qc Tryz.prog hs ks ⟨7, r⟩ k7_23 s = condV (s.regs.get undefV 33) (Qc Tryz.prog hs ks ⟨7, r⟩ k7_24) (Qc Tryz.prog hs ks ⟨7, r⟩ k7_25) s := Qc_cond (t := 33) (a := k7_24) (b := k7_25) (by kernel_rfl) _ _
theorem k7_24_c : Qc Tryz.prog hs ks ⟨7, r⟩ k7_24 s = some [(.normal, s)] := Qc_skip (by kernel_rfl) _ _
theorem k7_25_c : Qc Tryz.prog hs ks ⟨7, r⟩ k7_25 s = some [(.exit 0, s)] := Qc_exit (by kernel_rfl) _ _
noncomputable def k7_26 : Code := codeA k7_21
noncomputable def k7_27 : Code := codeB k7_21
theorem k7_21_c : Qc Tryz.prog hs ks ⟨7, r⟩ k7_21 s = thenV (Qc Tryz.prog hs ks ⟨7, r⟩ k7_26 s) (Qc Tryz.prog hs ks ⟨7, r⟩ k7_27) := Qc_seq (a := k7_26) (b := k7_27) (by kernel_rfl) _ _
noncomputable def k7_28 : Code := codeA k7_26
theorem k7_26_c : Qc Tryz.prog hs ks ⟨7, r⟩ k7_26 s = blockV 1 (Qc Tryz.prog hs ks ⟨7, r⟩ k7_28 s) := Qc_block (b := k7_28) (by kernel_rfl) _ _
noncomputable def k7_29 : Code := codeA k7_28
noncomputable def k7_30 : Code := codeB k7_28
theorem k7_28_c : Qc Tryz.prog hs ks ⟨7, r⟩ k7_28 s = thenV (Qc Tryz.prog hs ks ⟨7, r⟩ k7_29 s) (Qc Tryz.prog hs ks ⟨7, r⟩ k7_30) := Qc_seq (a := k7_29) (b := k7_30) (by kernel_rfl) _ _
theorem k7_29_c : Qc Tryz.prog hs ks ⟨7, r⟩ k7_29 s = Qo Tryz.prog hs ks k7_29 0 ⟨7, r⟩ s := Qc_region (id := 8) (ops := regOps k7_29) (by kernel_rfl) (by kernel_rfl) s
theorem k7_29_0 : Qo Tryz.prog hs ks k7_29 0 ⟨7, r⟩ s = stepV s (some 36) (val (addrAdd (s.regs.get undefV 5) 1)) (Qo Tryz.prog hs ks k7_29 1 ⟨7, r⟩) := oR (by kernel_rfl)
theorem k7_29_1 : Qo Tryz.prog hs ks k7_29 1 ⟨7, r⟩ s = stepV s (some 37) (xLoad Tryz.prog 28 s.h.get (s.regs.get undefV 36)) (Qo Tryz.prog hs ks k7_29 2 ⟨7, r⟩) := oR (by kernel_rfl)
theorem k7_29_2 : Qo Tryz.prog hs ks k7_29 2 ⟨7, r⟩ s = stepV s (some 38) (some { v := (s.regs.get undefV 10) }) (Qo Tryz.prog hs ks k7_29 3 ⟨7, r⟩) := oR (by kernel_rfl)
theorem k7_29_3 : Qo Tryz.prog hs ks k7_29 3 ⟨7, r⟩ s = stepV s (some 39) (val (indexAddr Tryz.prog 28 (s.regs.get undefV 37) (s.regs.get undefV 38))) (Qo Tryz.prog hs ks k7_29 4 ⟨7, r⟩) := oR (by kernel_rfl)
theorem k7_29_4 : Qo Tryz.prog hs ks k7_29 4 ⟨7, r⟩ s = stepV s (some 40) (xLoad Tryz.prog 34 s.h.get (s.regs.get undefV 39)) (Qo Tryz.prog hs ks k7_29 5 ⟨7, r⟩) := oR (by kernel_rfl)
theorem k7_29_5 : Qo Tryz.prog hs ks k7_29 5 ⟨7, r⟩ s = stepV s (some 11) (some { v := .ptr s.h.n 0, nw := [.row 0 [.str ⟨#[]⟩, .int .i64 (0)]] }) (Qo Tryz.prog hs ks k7_29 6 ⟨7, r⟩) := oR (by kernel_rfl)
theorem k7_29_6 : Qo Tryz.prog hs ks k7_29 6 ⟨7, r⟩ s = stepV s none (xStore Tryz.prog 34 s.h.get (s.regs.get undefV 11) (s.regs.get undefV 40)) (Qo Tryz.prog hs ks k7_29 7 ⟨7, r⟩) := oR (by kernel_rfl)
theorem k7_29_7 : Qo Tryz.prog hs ks k7_29 7 ⟨7, r⟩ s = some [(.normal, s)] := Qo_end (by kernel_rfl) s
noncomputable def k7_31 : Code := codeA k7_30
noncomputable def k7_32 : Code := codeB k7_30
theorem k7_30_c : Qc Tryz.prog hs ks ⟨7, r⟩ k7_30 s = thenV (Qc Tryz.prog hs ks ⟨7, r⟩ k7_31 s) (Qc Tryz.prog hs ks ⟨7, r⟩ k7_32) := Qc_seq (a := k7_31) (b := k7_32) (by kernel_rfl) _ _
theorem k7_31_c : Qc Tryz.prog hs ks ⟨7, r⟩ k7_31 s = Qo Tryz.prog hs ks k7_31 0 ⟨7, r⟩ s := Qc_region (id := 9) (ops := regOps k7_31) (by kernel_rfl) (by kernel_rfl) s
theorem k7_31_0 : Qo Tryz.prog hs ks k7_31 0 ⟨7, r⟩ s = stepV s (some 42) (val (addrAdd (s.regs.get undefV 11) 1)) (Qo Tryz.prog hs ks k7_31 1 ⟨7, r⟩) := oR (by kernel_rfl)
theorem k7_31_1 : Qo Tryz.prog hs ks k7_31 1 ⟨7, r⟩ s = stepV s (some 43) (xLoad Tryz.prog 3 s.h.get (s.regs.get undefV 42)) (Qo Tryz.prog hs ks k7_31 2 ⟨7, r⟩) := oR (by kernel_rfl)
theorem k7_31_2 : Qo Tryz.prog hs ks k7_31 2 ⟨7, r⟩ s = thenC (some 44) s (callS Tryz.prog hs ks 18 [(s.regs.get undefV 43)] s.h) (Qo Tryz.prog hs ks k7_31 3 ⟨7, r⟩) := cR (by kernel_rfl)
theorem k7_31_3 : Qo Tryz.prog hs ks k7_31 3 ⟨7, r⟩ s = stepV s (some 41) (some { v := (s.regs.get undefV 44) }) (Qo Tryz.prog hs ks k7_31 4 ⟨7, r⟩) := oR (by kernel_rfl)
theorem k7_31_4 : Qo Tryz.prog hs ks k7_31 4 ⟨7, r⟩ s = stepV s (some 45) (xExtract (s.regs.get undefV 41) 0) (Qo Tryz.prog hs ks k7_31 5 ⟨7, r⟩) := oR (by kernel_rfl)
theorem k7_31_5 : Qo Tryz.prog hs ks k7_31 5 ⟨7, r⟩ s = stepV s (some 46) (xExtract (s.regs.get undefV 41) 1) (Qo Tryz.prog hs ks k7_31 6 ⟨7, r⟩) := oR (by kernel_rfl)
theorem k7_31_6 : Qo Tryz.prog hs ks k7_31 6 ⟨7, r⟩ s = stepV s (some 12) (some { v := .ptr s.h.n 0, nw := [.row 0 [.int .i64 (0), .nils]] }) (Qo Tryz.prog hs ks k7_31 7 ⟨7, r⟩) := oR (by kernel_rfl)
theorem k7_31_7 : Qo Tryz.prog hs ks k7_31 7 ⟨7, r⟩ s = stepV s none (xStore Tryz.prog 37 s.h.get (s.regs.get undefV 12) (s.regs.get undefV 45)) (Qo Tryz.prog hs ks k7_31 8 ⟨7, r⟩) := oR (by kernel_rfl)
theorem k7_31_8 : Qo Tryz.prog hs ks k7_31 8 ⟨7, r⟩ s = stepV s (some 13) (some { v := (s.regs.get undefV 46) }) (Qo Tryz.prog hs ks k7_31 9 ⟨7, r⟩) := oR (by kernel_rfl)
theorem k7_31_9 : Qo Tryz.prog hs ks k7_31 9 ⟨7, r⟩ s = some [(.normal, s)] := Qo_end (by kernel_rfl) s
noncomputable def k7_33 : Code := codeA k7_32
noncomputable def k7_34 : Code := codeB k7_32
theorem k7_32_c : Qc Tryz.prog hs ks ⟨7, r⟩ k7_32 s = thenV (Qc Tryz.prog hs ks ⟨7, r⟩ k7_33 s) (Qc Tryz.prog hs ks ⟨7, r⟩ k7_34) := Qc_seq (a := k7_33) (b := k7_34) (by kernel_rfl) _ _
noncomputable def k7_35 : Code := codeA k7_33
noncomputable def k7_36 : Code := codeB k7_33
theorem k7_33_c : Qc Tryz.prog hs ks ⟨7, r⟩ k7_33 s = thenV (Qc Tryz.prog hs ks ⟨7, r⟩ k7_35 s) (Qc Tryz.prog hs ks ⟨7, r⟩ k7_36) := Qc_seq (a := k7_35) (b := k7_36) (by kernel_rfl) _ _
theorem k7_35_c : Qc Tryz.prog hs ks ⟨7, r⟩ k7_35 s = Qo Tryz.prog hs ks k7_35 0 ⟨7, r⟩ s := Qc_region (id := 10) (ops := regOps k7_35) (by kernel_rfl) (by kernel_rfl) s
theorem k7_35_0 : Qo Tryz.prog hs ks k7_35 0 ⟨7, r⟩ s = stepV s (some 47) (val (addrAdd (s.regs.get undefV 11) 0)) (Qo Tryz.prog hs ks k7_35 1 ⟨7, r⟩) := oR (by kernel_rfl)
theorem k7_35_1 : Qo Tryz.prog hs ks k7_35 1 ⟨7, r⟩ s = stepV s (some 48) (xLoad Tryz.prog 9 s.h.get (s.regs.get undefV 47)) (Qo Tryz.prog hs ks k7_35 2 ⟨7, r⟩) := oR (by kernel_rfl)
theorem k7_35_2 : Qo Tryz.prog hs ks k7_35 2 ⟨7, r⟩ s = stepV s (some 49) (val (binV Tryz.prog .neq 9 false true (s.regs.get undefV 48) (.str ⟨#[]⟩))) (Qo Tryz.prog hs ks k7_35 3 ⟨7, r⟩) := oR (by kernel_rfl)
theorem k7_35_3 : Qo Tryz.prog hs ks k7_35 3 ⟨7, r⟩ s = some [(.normal, s)] := Qo_end (by kernel_rfl) s
noncomputable def k7_37 : Code := codeA k7_36
noncomputable def k7_38 : Code := codeB k7_36
theorem k7_36_c : Qc Tryz.prog hs ks ⟨7, r⟩ k7_36 s = condV (s.regs.get undefV 49) (Qc Tryz.prog hs ks ⟨7, r⟩ k7_37) (Qc Tryz.prog hs ks ⟨7, r⟩ k7_38) s := Qc_cond (t := 49) (a := k7_37) (b := k7_38) (by kernel_rfl) _ _
noncomputable def k7_39 : Code := codeA k7_37
noncomputable def k7_40 : Code := codeB k7_37
theorem k7_37_c : Qc Tryz.prog hs ks ⟨7, r⟩ k7_37 s = thenV (Qc Tryz.prog hs ks ⟨7, r⟩ k7_39 s) (Qc Tryz.prog hs ks ⟨7, r⟩ k7_40) := Qc_seq (a := k7_39) (b := k7_40) (by kernel_rfl) _ _
theorem k7_39_c : Qc Tryz.prog hs ks ⟨7, r⟩ k7_39 s = Qo Tryz.prog hs ks k7_39 0 ⟨7, r⟩ s := Qc_region (id := 11) (ops := regOps k7_39) (by kernel_rfl) (by kernel_rfl) s
theorem k7_39_0 : Qo Tryz.prog hs ks k7_39 0 ⟨7, r⟩ s = stepV s (some 50) (some { v := (s.regs.get undefV 0) }) (Qo Tryz.prog hs ks k7_39 1 ⟨7, r⟩) := oR (by kernel_rfl)
theorem k7_39_1 : Qo Tryz.prog hs ks k7_39 1 ⟨7, r⟩ s = stepV s (some 51) (builtinV Tryz.prog false s.h.get s.h.n .len [22] [(s.regs.get undefV 50)]) (Qo Tryz.prog hs ks k7_39 2 ⟨7, r⟩) := oR (by kernel_rfl)
theorem k7_39_2 : Qo Tryz.prog hs ks k7_39 2 ⟨7, r⟩ s = stepV s (some 52) (val (binV Tryz.prog .sub 3 false true (s.regs.get undefV 51) (.int .i64 (1)))) (Qo Tryz.prog hs ks k7_39 3 ⟨7, r⟩) := oR (by kernel_rfl)
theorem k7_39_3 : Qo Tryz.prog hs ks k7_39 3 ⟨7, r⟩ s = stepV s (some 14) (some { v := (s.regs.get undefV 52) }) (Qo Tryz.prog hs ks k7_39 4 ⟨7, r⟩) := oR (by kernel_rfl)
theorem k7_39_4 : Qo Tryz.prog hs ks k7_39 4 ⟨7, r⟩ s = some [(.normal, s)] := Qo_end (by kernel_rfl) s
noncomputable def k7_41 : Code := codeA k7_40
noncomputable def k7_42 : Code := codeB k7_40
theorem k7_40_c : Qc Tryz.prog hs ks ⟨7, r⟩ k7_40 s = thenV (Qc Tryz.prog hs ks ⟨7, r⟩ k7_41 s) (Qc Tryz.prog hs ks ⟨7, r⟩ k7_42) := Qc_seq (a := k7_41) (b := k7_42) (by kernel_rfl) _ _
noncomputable def k7_43 : Code := codeA k7_41
theorem k7_41_c : Qc Tryz.prog hs ks ⟨7, r⟩ k7_41 s = blockV 2 (Qc Tryz.prog hs ks ⟨7, r⟩ k7_43 s) := Qc_block (b := k7_43) (by kernel_rfl) _ _
noncomputable def k7_44 : Code := codeA k7_43
theorem k7_43_l : Qc Tryz.prog hs ks ⟨7, r⟩ k7_43 s = thenV (Qc Tryz.prog hs ks ⟨7, r⟩ k7_44 s) (Qc Tryz.prog hs ks ⟨7, r⟩ k7_43) := Qc_loop (b := k7_44) (by kernel_rfl) _ _
noncomputable def k7_45 : Code := codeA k7_44
noncomputable def k7_46 : Code := codeB k7_44
theorem k7_44_c : Qc Tryz.prog hs ks ⟨7, r⟩ k7_44 s = thenV (Qc Tryz.prog hs ks ⟨7, r⟩ k7_45 s) (Qc Tryz.prog hs ks ⟨7, r⟩ k7_46) := Qc_seq (a := k7_45) (b := k7_46) (by kernel_rfl) _ _
noncomputable def k7_47 : Code := codeA k7_45
noncomputable def k7_48 : Code := codeB k7_45
theorem k7_45_c : Qc Tryz.prog hs ks ⟨7, r⟩ k7_45 s = thenV (Qc Tryz.prog hs ks ⟨7, r⟩ k7_47 s) (Qc Tryz.prog hs ks ⟨7, r⟩ k7_48) := Qc_seq (a := k7_47) (b := k7_48) (by kernel_rfl) _ _
noncomputable def k7_47_bef : List Nat := [0, 1, 3, 7, 7, 31, 63, 7, 135, 511, 1023]
theorem k7_47_c : Qc Tryz.prog hs ks ⟨7, r⟩ k7_47 s = Qd Tryz.prog hs ks k7_47 k7_47_bef 0 ⟨7, r⟩ [] s := Qc_draw (id := 12) (ops := regOps k7_47) (by kernel_rfl) (by kernel_rfl) (by kernel_rfl) (by kernel_rfl) s
theorem k7_47_0 : Qd Tryz.prog hs ks k7_47 k7_47_bef 0 ⟨7, r⟩ dn s = stepD s (some 53) 0 k7_47_bef dn (some { v := (s.regs.get undefV 14) }) (Qd Tryz.prog hs ks k7_47 k7_47_bef 1 ⟨7, r⟩) := dR (by kernel_rfl)
theorem k7_47_1 : Qd Tryz.prog hs ks k7_47 k7_47_bef 1 ⟨7, r⟩ dn s = stepD s (some 54) 1 k7_47_bef dn (val (binV Tryz.prog .geq 3 false true (s.regs.get undefV 53) (.int .i64 (0)))) (Qd Tryz.prog hs ks k7_47 k7_47_bef 2 ⟨7, r⟩) := dR (by kernel_rfl)
theorem k7_47_2 : Qd Tryz.prog hs ks k7_47 k7_47_bef 2 ⟨7, r⟩ dn s = stepD s (some 55) 2 k7_47_bef dn (some { v := (s.regs.get undefV 54) }) (Qd Tryz.prog hs ks k7_47 k7_47_bef 3 ⟨7, r⟩) := dR (by kernel_rfl)
theorem k7_47_3 : Qd Tryz.prog hs ks k7_47 k7_47_bef 3 ⟨7, r⟩ dn s = if wantB (s.regs.get undefV 55) true = true then stepD s (some 56) 3 k7_47_bef dn (some { v := (s.regs.get undefV 0) }) (Qd Tryz.prog hs ks k7_47 k7_47_bef 4 ⟨7, r⟩) else Qd Tryz.prog hs ks k7_47 k7_47_bef 4 ⟨7, r⟩ dn (skipS s (some 56)) := dI (by kernel_rfl)
theorem k7_47_4 : Qd Tryz.prog hs ks k7_47 k7_47_bef 4 ⟨7, r⟩ dn s = if wantB (s.regs.get undefV 55) true = true then stepD s (some 57) 4 k7_47_bef dn (some { v := (s.regs.get undefV 14) }) (Qd Tryz.prog hs ks k7_47 k7_47_bef 5 ⟨7, r⟩) else Qd Tryz.prog hs ks k7_47 k7_47_bef 5 ⟨7, r⟩ dn (skipS s (some 57)) := dI (by kernel_rfl)
theorem k7_47_5 : Qd Tryz.prog hs ks k7_47 k7_47_bef 5 ⟨7, r⟩ dn s = if wantB (s.regs.get undefV 55) true = true then stepD s (some 58) 5 k7_47_bef dn (val (indexAddr Tryz.prog 22 (s.regs.get undefV 56) (s.regs.get undefV 57))) (Qd Tryz.prog hs ks k7_47 k7_47_bef 6 ⟨7, r⟩) else Qd Tryz.prog hs ks k7_47 k7_47_bef 6 ⟨7, r⟩ dn (skipS s (some 58)) := dI (by kernel_rfl)
theorem k7_47_6 : Qd Tryz.prog hs ks k7_47 k7_47_bef 6 ⟨7, r⟩ dn s = if wantB (s.regs.get undefV 55) true = true then stepD s (some 59) 6 k7_47_bef dn (xLoad Tryz.prog 9 s.h.get (s.regs.get undefV 58)) (Qd Tryz.prog hs ks k7_47 k7_47_bef 7 ⟨7, r⟩) else Qd Tryz.prog hs ks k7_47 k7_47_bef 7 ⟨7, r⟩ dn (skipS s (some 59)) := dI (by kernel_rfl)
theorem k7_47_7 : Qd Tryz.prog hs ks k7_47 k7_47_bef 7 ⟨7, r⟩ dn s = if wantB (s.regs.get undefV 55) true = true then stepD s (some 60) 7 k7_47_bef dn (val (addrAdd (s.regs.get undefV 11) 0)) (Qd Tryz.prog hs ks k7_47 k7_47_bef 8 ⟨7, r⟩) else Qd Tryz.prog hs ks k7_47 k7_47_bef 8 ⟨7, r⟩ dn (skipS s (some 60)) := dI (by kernel_rfl)
theorem k7_47_8 : Qd Tryz.prog hs ks k7_47 k7_47_bef 8 ⟨7, r⟩ dn s = if wantB (s.regs.get undefV 55) true = true then stepD s (some 61) 8 k7_47_bef dn (xLoad Tryz.prog 9 s.h.get (s.regs.get undefV 60)) (Qd Tryz.prog hs ks k7_47 k7_47_bef 9 ⟨7, r⟩) else Qd Tryz.prog hs ks k7_47 k7_47_bef 9 ⟨7, r⟩ dn (skipS s (some 61)) := dI (by kernel_rfl)
theorem k7_47_9 : Qd Tryz.prog hs ks k7_47 k7_47_bef 9 ⟨7, r⟩ dn s = if wantB (s.regs.get undefV 55) true = true then stepD s (some 62) 9 k7_47_bef dn (val (binV Tryz.prog .neq 9 false false (s.regs.get undefV 59) (s.regs.get undefV 61))) (Qd Tryz.prog hs ks k7_47 k7_47_bef 10 ⟨7, r⟩) else Qd Tryz.prog hs ks k7_47 k7_47_bef 10 ⟨7, r⟩ dn (skipS s (some 62)) := dI (by kernel_rfl)
theorem k7_47_10 : Qd Tryz.prog hs ks k7_47 k7_47_bef 10 ⟨7, r⟩ dn s = stepD s (some 63) 10 k7_47_bef dn (xPick (s.regs.get undefV 55) (s.regs.get undefV 62) (.bool false)) (Qd Tryz.prog hs ks k7_47 k7_47_bef 11 ⟨7, r⟩) := dR (by kernel_rfl)
theorem k7_47_11 : Qd Tryz.prog hs ks k7_47 k7_47_bef 11 ⟨7, r⟩ dn s = some [(.normal, s)] := Qd_end (by kernel_rfl) dn s
noncomputable def k7_49 : Code := codeA k7_48
noncomputable def k7_50 : Code := codeB k7_48
theorem k7_48_c : Qc Tryz.prog hs ks ⟨7, r⟩ k7_48 s = condV (s.regs.get undefV 63) (Qc Tryz.prog hs ks ⟨7, r⟩ k7_49) (Qc Tryz.prog hs ks ⟨7, r⟩ k7_50) s := Qc_cond (t := 63) (a := k7_49) (b := k7_50) (by kernel_rfl) _ _
theorem k7_49_c : Qc Tryz.prog hs ks ⟨7, r⟩ k7_49 s = some [(.normal, s)] := Qc_skip (by kernel_rfl) _ _
theorem k7_50_c : Qc Tryz.prog hs ks ⟨7, r⟩ k7_50 s = some [(.exit 2, s)] := Qc_exit (by kernel_rfl) _ _
noncomputable def k7_51 : Code := codeA k7_46
theorem k7_46_c : Qc Tryz.prog hs ks ⟨7, r⟩ k7_46 s = blockV 3 (Qc Tryz.prog hs ks ⟨7, r⟩ k7_51 s) := Qc_block (b := k7_51) (by kernel_rfl) _ _
theorem k7_51_c : Qc Tryz.prog hs ks ⟨7, r⟩ k7_51 s = Qo Tryz.prog hs ks k7_51 0 ⟨7, r⟩ s := Qc_region (id := 13) (ops := regOps k7_51) (by kernel_rfl) (by kernel_rfl) s
theorem k7_51_0 : Qo Tryz.prog hs ks k7_51 0 ⟨7, r⟩ s = stepV s (some 64) (some { v := (s.regs.get undefV 14) }) (Qo Tryz.prog hs ks k7_51 1 ⟨7, r⟩) := oR (by kernel_rfl)
theorem k7_51_1 : Qo Tryz.prog hs ks k7_51 1 ⟨7, r⟩ s = stepV s (some 65) (val (binV Tryz.prog .sub 3 false true (s.regs.get undefV 64) (.int .i64 (1)))) (Qo Tryz.prog hs ks k7_51 2 ⟨7, r⟩) := oR (by kernel_rfl)
theorem k7_51_2 : Qo Tryz.prog hs ks k7_51 2 ⟨7, r⟩ s = stepV s (some 14) (some { v := (s.regs.get undefV 65) }) (Qo Tryz.prog hs ks k7_51 3 ⟨7, r⟩) := oR (by kernel_rfl)
theorem k7_51_3 : Qo Tryz.prog hs ks k7_51 3 ⟨7, r⟩ s = some [(.normal, s)] := Qo_end (by kernel_rfl) s
noncomputable def k7_52 : Code := codeA k7_42
noncomputable def k7_53 : Code := codeB k7_42
theorem k7_42_c : Qc Tryz.prog hs ks ⟨7, r⟩ k7_42 s = thenV (Qc Tryz.prog hs ks ⟨7, r⟩ k7_52 s) (Qc Tryz.prog hs ks ⟨7, r⟩ k7_53) := Qc_seq (a := k7_52) (b := k7_53) (by kernel_rfl) _ _
noncomputable def k7_54 : Code := codeA k7_52
noncomputable def k7_55 : Code := codeB k7_52
theorem k7_52_c : Qc Tryz.prog hs ks ⟨7, r⟩ k7_52 s = thenV (Qc Tryz.prog hs ks ⟨7, r⟩ k7_54 s) (Qc Tryz.prog hs ks ⟨7, r⟩ k7_55) := Qc_seq (a := k7_54) (b := k7_55) (by kernel_rfl) _ _
theorem k7_54_c : Qc Tryz.prog hs ks ⟨7, r⟩ k7_54 s = Qo Tryz.prog hs ks k7_54 0 ⟨7, r⟩ s := Qc_region (id := 14) (ops := regOps k7_54) (by kernel_rfl) (by kernel_rfl) s
theorem k7_54_0 : Qo Tryz.prog hs ks k7_54 0 ⟨7, r⟩ s = stepV s (some 66) (some { v := (s.regs.get undefV 14) }) (Qo Tryz.prog hs ks k7_54 1 ⟨7, r⟩) := oR (by kernel_rfl)
theorem k7_54_1 : Qo Tryz.prog hs ks k7_54 1 ⟨7, r⟩ s = stepV s (some 67) (val (binV Tryz.prog .lss 3 false true (s.regs.get undefV 66) (.int .i64 (0)))) (Qo Tryz.prog hs ks k7_54 2 ⟨7, r⟩) := oR (by kernel_rfl)
theorem k7_54_2 : Qo Tryz.prog hs ks k7_54 2 ⟨7, r⟩ s = some [(.normal, s)] := Qo_end (by kernel_rfl) s
noncomputable def k7_56 : Code := codeA k7_55
noncomputable def k7_57 : Code := codeB k7_55
theorem k7_55_c : Qc Tryz.prog hs ks ⟨7, r⟩ k7_55 s = condV (s.regs.get undefV 67) (Qc Tryz.prog hs ks ⟨7, r⟩ k7_56) (Qc Tryz.prog hs ks ⟨7, r⟩ k7_57) s := Qc_cond (t := 67) (a := k7_56) (b := k7_57) (by kernel_rfl) _ _
noncomputable def k7_58 : Code := codeA k7_56
noncomputable def k7_59 : Code := codeB k7_56
theorem k7_56_c : Qc Tryz.prog hs ks ⟨7, r⟩ k7_56 s = thenV (Qc Tryz.prog hs ks ⟨7, r⟩ k7_58 s) (Qc Tryz.prog hs ks ⟨7, r⟩ k7_59) := Qc_seq (a := k7_58) (b := k7_59) (by kernel_rfl) _ _
theorem k7_58_c : Qc Tryz.prog hs ks ⟨7, r⟩ k7_58 s = Qo Tryz.prog hs ks k7_58 0 ⟨7, r⟩ s := Qc_region (id := 15) (ops := regOps k7_58) (by kernel_rfl) (by kernel_rfl) s
theorem k7_58_0 : Qo Tryz.prog hs ks k7_58 0 ⟨7, r⟩ s = stepV s (some 68) (val (build Tryz.prog 27 [])) (Qo Tryz.prog hs ks k7_58 1 ⟨7, r⟩) := oR (by kernel_rfl)
theorem k7_58_1 : Qo Tryz.prog hs ks k7_58 1 ⟨7, r⟩ s = stepV s (some 69) (val (build Tryz.prog 37 [])) (Qo Tryz.prog hs ks k7_58 2 ⟨7, r⟩) := oR (by kernel_rfl)
theorem k7_58_2 : Qo Tryz.prog hs ks k7_58 2 ⟨7, r⟩ s = stepV s none (xStore Tryz.prog 27 s.h.get (s.regs.get undefV 6) (s.regs.get undefV 68)) (Qo Tryz.prog hs ks k7_58 3 ⟨7, r⟩) := oR (by kernel_rfl)
theorem k7_58_3 : Qo Tryz.prog hs ks k7_58 3 ⟨7, r⟩ s = stepV s none (xStore Tryz.prog 37 s.h.get (s.regs.get undefV 7) (s.regs.get undefV 69)) (Qo Tryz.prog hs ks k7_58 4 ⟨7, r⟩) := oR (by kernel_rfl)
theorem k7_58_4 : Qo Tryz.prog hs ks k7_58 4 ⟨7, r⟩ s = stepV s (some 8) (some { v := (.int .i64 (24)) }) (Qo Tryz.prog hs ks k7_58 5 ⟨7, r⟩) := oR (by kernel_rfl)
theorem k7_58_5 : Qo Tryz.prog hs ks k7_58 5 ⟨7, r⟩ s = some [(.normal, s)] := Qo_end (by kernel_rfl) s
theorem k7_59_c : Qc Tryz.prog hs ks ⟨7, r⟩ k7_59 s = some [(.ret, s)] := Qc_ret (by kernel_rfl) _ _
theorem k7_57_c : Qc Tryz.prog hs ks ⟨7, r⟩ k7_57 s = some [(.normal, s)] := Qc_skip (by kernel_rfl) _ _
theorem k7_53_c : Qc Tryz.prog hs ks ⟨7, r⟩ k7_53 s = Qo Tryz.prog hs ks k7_53 0 ⟨7, r⟩ s := Qc_region (id := 16) (ops := regOps k7_53) (by kernel_rfl) (by kernel_rfl) s
theorem k7_53_0 : Qo Tryz.prog hs ks k7_53 0 ⟨7, r⟩ s = stepV s (some 71) (some { v := (s.regs.get undefV 14) }) (Qo Tryz.prog hs ks k7_53 1 ⟨7, r⟩) := oR (by kernel_rfl)
theorem k7_53_1 : Qo Tryz.prog hs ks k7_53 1 ⟨7, r⟩ s = stepV s (some 72) (val (addrAdd (s.regs.get undefV 11) 1)) (Qo Tryz.prog hs ks k7_53 2 ⟨7, r⟩) := oR (by kernel_rfl)
theorem k7_53_2 : Qo Tryz.prog hs ks k7_53 2 ⟨7, r⟩ s = stepV s (some 73) (xLoad Tryz.prog 3 s.h.get (s.regs.get undefV 72)) (Qo Tryz.prog hs ks k7_53 3 ⟨7, r⟩) := oR (by kernel_rfl)
theorem k7_53_3 : Qo Tryz.prog hs ks k7_53 3 ⟨7, r⟩ s = thenC (some 74) s (callS Tryz.prog hs ks 19 [(s.regs.get undefV 71), (s.regs.get undefV 73)] s.h) (Qo Tryz.prog hs ks k7_53 4 ⟨7, r⟩) := cR (by kernel_rfl)
theorem k7_53_4 : Qo Tryz.prog hs ks k7_53 4 ⟨7, r⟩ s = stepV s (some 70) (some { v := (s.regs.get undefV 74) }) (Qo Tryz.prog hs ks k7_53 5 ⟨7, r⟩) := oR (by kernel_rfl)
theorem k7_53_5 : Qo Tryz.prog hs ks k7_53 5 ⟨7, r⟩ s = stepV s (some 75) (xExtract (s.regs.get undefV 70) 0) (Qo Tryz.prog hs ks k7_53 6 ⟨7, r⟩) := oR (by kernel_rfl)
theorem k7_53_6 : Qo Tryz.prog hs ks k7_53 6 ⟨7, r⟩ s = stepV s (some 76) (xExtract (s.regs.get undefV 70) 1) (Qo Tryz.prog hs ks k7_53 7 ⟨7, r⟩) := oR (by kernel_rfl)
theorem k7_53_7 : Qo Tryz.prog hs ks k7_53 7 ⟨7, r⟩ s = stepV s none (xStore Tryz.prog 37 s.h.get (s.regs.get undefV 12) (s.regs.get undefV 75)) (Qo Tryz.prog hs ks k7_53 8 ⟨7, r⟩) := oR (by kernel_rfl)
theorem k7_53_8 : Qo Tryz.prog hs ks k7_53 8 ⟨7, r⟩ s = stepV s (some 13) (some { v := (s.regs.get undefV 76) }) (Qo Tryz.prog hs ks k7_53 9 ⟨7, r⟩) := oR (by kernel_rfl)
theorem k7_53_9 : Qo Tryz.prog hs ks k7_53 9 ⟨7, r⟩ s = some [(.normal, s)] := Qo_end (by kernel_rfl) s
theorem k7_38_c : Qc Tryz.prog hs ks ⟨7, r⟩ k7_38 s = some [(.normal, s)] := Qc_skip (by kernel_rfl) _ _
noncomputable def k7_60 : Code := codeA k7_34
noncomputable def k7_61 : Code := codeB k7_34
theorem k7_34_c : Qc Tryz.prog hs ks ⟨7, r⟩ k7_34 s = thenV (Qc Tryz.prog hs ks ⟨7, r⟩ k7_60 s) (Qc Tryz.prog hs ks ⟨7, r⟩ k7_61) := Qc_seq (a := k7_60) (b := k7_61) (by kernel_rfl) _ _
noncomputable def k7_62 : Code := codeA k7_60
noncomputable def k7_63 : Code := codeB k7_60
theorem k7_60_c : Qc Tryz.prog hs ks ⟨7, r⟩ k7_60 s = thenV (Qc Tryz.prog hs ks ⟨7, r⟩ k7_62 s) (Qc Tryz.prog hs ks ⟨7, r⟩ k7_63) := Qc_seq (a := k7_62) (b := k7_63) (by kernel_rfl) _ _
theorem k7_62_c : Qc Tryz.prog hs ks ⟨7, r⟩ k7_62 s = Qo Tryz.prog hs ks k7_62 0 ⟨7, r⟩ s := Qc_region (id := 17) (ops := regOps k7_62) (by kernel_rfl) (by kernel_rfl) s
theorem k7_62_0 : Qo Tryz.prog hs ks k7_62 0 ⟨7, r⟩ s = stepV s (some 77) (some { v := (s.regs.get undefV 13) }) (Qo Tryz.prog hs ks k7_62 1 ⟨7, r⟩) := oR (by kernel_rfl)
theorem k7_62_1 : Qo Tryz.prog hs ks k7_62 1 ⟨7, r⟩ s = stepV s (some 78) (val (binV Tryz.prog .neq 3 false true (s.regs.get undefV 77) (.int .i64 (0)))) (Qo Tryz.prog hs ks k7_62 2 ⟨7, r⟩) := oR (by kernel_rfl)
theorem k7_62_2 : Qo Tryz.prog hs ks k7_62 2 ⟨7, r⟩ s = some [(.normal, s)] := Qo_end (by kernel_rfl) s
noncomputable def k7_64 : Code := codeA k7_63
noncomputable def k7_65 : Code := codeB k7_63
theorem k7_63_c : Qc Tryz.prog hs ks ⟨7, r⟩ k7_63 s = condV (s.regs.get undefV 78) (Qc Tryz.prog hs ks ⟨7, r⟩ k7_64) (Qc Tryz.prog hs ks ⟨7, r⟩ k7_65) s := Qc_cond (t := 78) (a := k7_64) (b := k7_65) (by kernel_rfl) _ _
noncomputable def k7_66 : Code := codeA k7_64
noncomputable def k7_67 : Code := codeB k7_64
theorem k7_64_c : Qc Tryz.prog hs ks ⟨7, r⟩ k7_64 s = thenV (Qc Tryz.prog hs ks ⟨7, r⟩ k7_66 s) (Qc Tryz.prog hs ks ⟨7, r⟩ k7_67) := Qc_seq (a := k7_66) (b := k7_67) (by kernel_rfl) _ _
theorem k7_66_c : Qc Tryz.prog hs ks ⟨7, r⟩ k7_66 s = Qo Tryz.prog hs ks k7_66 0 ⟨7, r⟩ s := Qc_region (id := 18) (ops := regOps k7_66) (by kernel_rfl) (by kernel_rfl) s
theorem k7_66_0 : Qo Tryz.prog hs ks k7_66 0 ⟨7, r⟩ s = stepV s (some 79) (val (build Tryz.prog 27 [])) (Qo Tryz.prog hs ks k7_66 1 ⟨7, r⟩) := oR (by kernel_rfl)
theorem k7_66_1 : Qo Tryz.prog hs ks k7_66 1 ⟨7, r⟩ s = stepV s (some 80) (val (build Tryz.prog 37 [])) (Qo Tryz.prog hs ks k7_66 2 ⟨7, r⟩) := oR (by kernel_rfl)
theorem k7_66_2 : Qo Tryz.prog hs ks k7_66 2 ⟨7, r⟩ s = stepV s none (xStore Tryz.prog 27 s.h.get (s.regs.get undefV 6) (s.regs.get undefV 79)) (Qo Tryz.prog hs ks k7_66 3 ⟨7, r⟩) := oR (by kernel_rfl)
theorem k7_66_3 : Qo Tryz.prog hs ks k7_66 3 ⟨7, r⟩ s = stepV s none (xStore Tryz.prog 37 s.h.get (s.regs.get undefV 7) (s.regs.get undefV 80)) (Qo Tryz.prog hs ks k7_66 4 ⟨7, r⟩) := oR (by kernel_rfl)
theorem k7_66_4 : Qo Tryz.prog hs ks k7_66 4 ⟨7, r⟩ s = stepV s (some 8) (some { v := (.int .i64 (15)) }) (Qo Tryz.prog hs ks k7_66 5 ⟨7, r⟩) := oR (by kernel_rfl)
theorem k7_66_5 : Qo Tryz.prog hs ks k7_66 5 ⟨7, r⟩ s = some [(.normal, s)] := Qo_end (by kernel_rfl) s
theorem k7_67_c : Qc Tryz.prog hs ks ⟨7, r⟩ k7_67 s = some [(.ret, s)] := Qc_ret (by kernel_rfl) _ _
theorem k7_65_c : Qc Tryz.prog hs ks ⟨7, r⟩ k7_65 s = some [(.normal, s)] := Qc_skip (by kernel_rfl) _ _
theorem k7_61_c : Qc Tryz.prog hs ks ⟨7, r⟩ k7_61 s = Qo Tryz.prog hs ks k7_61 0 ⟨7, r⟩ s := Qc_region (id := 19) (ops := regOps k7_61) (by kernel_rfl) (by kernel_rfl) s
theorem k7_61_0 : Qo Tryz.prog hs ks k7_61 0 ⟨7, r⟩ s = stepV s (some 82) (xLoad Tryz.prog 37 s.h.get (s.regs.get undefV 9)) (Qo Tryz.prog hs ks k7_61 1 ⟨7, r⟩) := oR (by kernel_rfl)
theorem k7_61_1 : Qo Tryz.prog hs ks k7_61 1 ⟨7, r⟩ s = stepV s (some 83) (xLoad Tryz.prog 37 s.h.get (s.regs.get undefV 12)) (Qo Tryz.prog hs ks k7_61 2 ⟨7, r⟩) := oR (by kernel_rfl)
theorem k7_61_2 : Qo Tryz.prog hs ks k7_61 2 ⟨7, r⟩ s = thenC (some 84) s (callS Tryz.prog hs ks 20 [(s.regs.get undefV 82), (s.regs.get undefV 83)] s.h) (Qo Tryz.prog hs ks k7_61 3 ⟨7, r⟩) := cR (by kernel_rfl)
theorem k7_61_3 : Qo Tryz.prog hs ks k7_61 3 ⟨7, r⟩ s = stepV s (some 81) (some { v := (s.regs.get undefV 84) }) (Qo Tryz.prog hs ks k7_61 4 ⟨7, r⟩) := oR (by kernel_rfl)
theorem k7_61_4 : Qo Tryz.prog hs ks k7_61 4 ⟨7, r⟩ s = stepV s (some 85) (xExtract (s.regs.get undefV 81) 0) (Qo Tryz.prog hs ks k7_61 5 ⟨7, r⟩) := oR (by kernel_rfl)
theorem k7_61_5 : Qo Tryz.prog hs ks k7_61 5 ⟨7, r⟩ s = stepV s (some 86) (xExtract (s.regs.get undefV 81) 1) (Qo Tryz.prog hs ks k7_61 6 ⟨7, r⟩) := oR (by kernel_rfl)
theorem k7_61_6 : Qo Tryz.prog hs ks k7_61 6 ⟨7, r⟩ s = stepV s none (xStore Tryz.prog 37 s.h.get (s.regs.get undefV 9) (s.regs.get undefV 85)) (Qo Tryz.prog hs ks k7_61 7 ⟨7, r⟩) := oR (by kernel_rfl)
theorem k7_61_7 : Qo Tryz.prog hs ks k7_61 7 ⟨7, r⟩ s = some [(.normal, s)] := Qo_end (by kernel_rfl) s
theorem k7_27_c : Qc Tryz.prog hs ks ⟨7, r⟩ k7_27 s = Qo Tryz.prog hs ks k7_27 0 ⟨7, r⟩ s := Qc_region (id := 7) (ops := regOps k7_27) (by kernel_rfl) (by kernel_rfl) s
theorem k7_27_0 : Qo Tryz.prog hs ks k7_27 0 ⟨7, r⟩ s = stepV s (some 34) (some { v := (s.regs.get undefV 10) }) (Qo Tryz.prog hs ks k7_27 1 ⟨7, r⟩) := oR (by kernel_rfl)
theorem k7_27_1 : Qo Tryz.prog hs ks k7_27 1 ⟨7, r⟩ s = stepV s (some 35) (val (binV Tryz.prog .add 3 false true (s.regs.get undefV 34) (.int .i64 (1)))) (Qo Tryz.prog hs ks k7_27 2 ⟨7, r⟩) := oR (by kernel_rfl)
theorem k7_27_2 : Qo Tryz.prog hs ks k7_27 2 ⟨7, r⟩ s = stepV s (some 10) (some { v := (s.regs.get undefV 35) }) (Qo Tryz.prog hs ks k7_27 3 ⟨7, r⟩) := oR (by kernel_rfl)
theorem k7_27_3 : Qo Tryz.prog hs ks k7_27 3 ⟨7, r⟩ s = some [(.normal, s)] := Qo_end (by kernel_rfl) s
noncomputable def k7_68 : Code := codeA k7_15
noncomputable def k7_69 : Code := codeB k7_15
theorem k7_15_c : Qc Tryz.prog hs ks ⟨7, r⟩ k7_15 s = thenV (Qc Tryz.prog hs ks ⟨7, r⟩ k7_68 s) (Qc Tryz.prog hs ks ⟨7, r⟩ k7_69) := Qc_seq (a := k7_68) (b := k7_69) (by kernel_rfl) _ _
noncomputable def k7_68_bef : List Nat := [0, 0, 1, 7, 15]
theorem k7_68_c : Qc Tryz.prog hs ks ⟨7, r⟩ k7_68 s = Qd Tryz.prog hs ks k7_68 k7_68_bef 0 ⟨7, r⟩ [] s := Qc_draw (id := 20) (ops := regOps k7_68) (by kernel_rfl) (by kernel_rfl) (by kernel_rfl) (by kernel_rfl) s
theorem k7_68_0 : Qd Tryz.prog hs ks k7_68 k7_68_bef 0 ⟨7, r⟩ dn s = stepD s (some 87) 0 k7_68_bef dn (xLoad Tryz.prog 27 s.h.get (s.regs.get undefV 4)) (Qd Tryz.prog hs ks k7_68 k7_68_bef 1 ⟨7, r⟩) := dR (by kernel_rfl)
theorem k7_68_1 : Qd Tryz.prog hs ks k7_68 k7_68_bef 1 ⟨7, r⟩ dn s = stepD s (some 88) 1 k7_68_bef dn (xLoad Tryz.prog 37 s.h.get (s.regs.get undefV 9)) (Qd Tryz.prog hs ks k7_68 k7_68_bef 2 ⟨7, r⟩) := dR (by kernel_rfl)
theorem k7_68_2 : Qd Tryz.prog hs ks k7_68 k7_68_bef 2 ⟨7, r⟩ dn s = stepD s none 2 k7_68_bef dn (xStore Tryz.prog 27 s.h.get (s.regs.get undefV 6) (s.regs.get undefV 87)) (Qd Tryz.prog hs ks k7_68 k7_68_bef 3 ⟨7, r⟩) := dR (by kernel_rfl)
theorem k7_68_3 : Qd Tryz.prog hs ks k7_68 k7_68_bef 3 ⟨7, r⟩ dn s = stepD s none 3 k7_68_bef dn (xStore Tryz.prog 37 s.h.get (s.regs.get undefV 7) (s.regs.get undefV 88)) (Qd Tryz.prog hs ks k7_68 k7_68_bef 4 ⟨7, r⟩) := dR (by kernel_rfl)
theorem k7_68_4 : Qd Tryz.prog hs ks k7_68 k7_68_bef 4 ⟨7, r⟩ dn s = stepD s (some 8) 4 k7_68_bef dn (some { v := (.int .i64 (0)) }) (Qd Tryz.prog hs ks k7_68 k7_68_bef 5 ⟨7, r⟩) := dR (by kernel_rfl)
theorem k7_68_5 : Qd Tryz.prog hs ks k7_68 k7_68_bef 5 ⟨7, r⟩ dn s = some [(.normal, s)] := Qd_end (by kernel_rfl) dn s
theorem k7_69_c : Qc Tryz.prog hs ks ⟨7, r⟩ k7_69 s = some [(.ret, s)] := Qc_ret (by kernel_rfl) _ _
/-! function 8 -/
noncomputable def k8 : Code := Tryz.f8.body.getD .skip
theorem k8_fun (args : List V) (ha : args.length ≤ 38) (h : H) : (EV Tryz.prog hs ks).call 8 args h = endsV Tryz.prog hs ks Tryz.f8 (Qc Tryz.prog hs ks ⟨8, none⟩ k8 (S 38 (setF args 0 fun _ => undefV) [] h)) := EV_fun Tryz.func8 (by kernel_rfl) (by kernel_rfl) (by decide) ha h
theorem k8_ret (f : Nat → V) (h : H) : endsV Tryz.prog hs ks Tryz.f8 (some [(.ret, S 38 f [] h)]) = resV (resultVs Tryz.prog (S 38 f [] h) [.tmp 4]) h := ends_one (by kernel_rfl) (Or.inl rfl) _ _
theorem k8_nrm (f : Nat → V) (h : H) : endsV Tryz.prog hs ks Tryz.f8 (some [(.normal, S 38 f [] h)]) = resV (resultVs Tryz.prog (S 38 f [] h) [.tmp 4]) h := ends_one (by kernel_rfl) (Or.inr rfl) _ _
noncomputable def k8_0 : Code := codeA k8
noncomputable def k8_1 : Code := codeB k8
theorem k8_c : Qc Tryz.prog hs ks ⟨8, r⟩ k8 s = thenV (Qc Tryz.prog hs ks ⟨8, r⟩ k8_0 s) (Qc Tryz.prog hs ks ⟨8, r⟩ k8_1) := Qc_seq (a := k8_0) (b := k8_1) (by kernel_rfl) _ _
theorem k8_0_c : Qc Tryz.prog hs ks ⟨8, r⟩ k8_0 s = Qo Tryz.prog hs ks k8_0 0 ⟨8, r⟩ s := Qc_region (id := 0) (ops := regOps k8_0) (by kernel_rfl) (by kernel_rfl) s
theorem k8_0_0 : Qo Tryz.prog hs ks k8_0 0 ⟨8, r⟩ s = stepV s (some 2) (some { v := .ptr s.h.n 0, nw := [.row 0 (V.cells (s.regs.get undefV 0))] }) (Qo Tryz.prog hs ks k8_0 1 ⟨8, r⟩) := oR (by kernel_rfl)
theorem k8_0_1 : Qo Tryz.prog hs ks k8_0 1 ⟨8, r⟩ s = stepV s (some 3) (some { v := .ptr s.h.n 0, nw := [.row 0 (V.cells (s.regs.get undefV 1))] }) (Qo Tryz.prog hs ks k8_0 2 ⟨8, r⟩) := oR (by kernel_rfl)
theorem k8_0_2 : Qo Tryz.prog hs ks k8_0 2 ⟨8, r⟩ s = stepV s (some 4) (some { v := (.bool false) }) (Qo Tryz.prog hs ks k8_0 3 ⟨8, r⟩) := oR (by kernel_rfl)
theorem k8_0_3 : Qo Tryz.prog hs ks k8_0 3 ⟨8, r⟩ s = some [(.normal, s)] := Qo_end (by kernel_rfl) s
noncomputable def k8_2 : Code := codeA k8_1
noncomputable def k8_3 : Code := codeB k8_1
theorem k8_1_c : Qc Tryz.prog hs ks ⟨8, r⟩ k8_1 s = thenV (Qc Tryz.prog hs ks ⟨8, r⟩ k8_2 s) (Qc Tryz.prog hs ks ⟨8, r⟩ k8_3) := Qc_seq (a := k8_2) (b := k8_3) (by kernel_rfl) _ _
noncomputable def k8_4 : Code := codeA k8_2
noncomputable def k8_5 : Code := codeB k8_2
theorem k8_2_c : Qc Tryz.prog hs ks ⟨8, r⟩ k8_2 s = thenV (Qc Tryz.prog hs ks ⟨8, r⟩ k8_4 s) (Qc Tryz.prog hs ks ⟨8, r⟩ k8_5) := Qc_seq (a := k8_4) (b := k8_5) (by kernel_rfl) _ _
theorem k8_4_c : Qc Tryz.prog hs ks ⟨8, r⟩ k8_4 s = Qo Tryz.prog hs ks k8_4 0 ⟨8, r⟩ s := Qc_region (id := 1) (ops := regOps k8_4) (by kernel_rfl) (by kernel_rfl) s
theorem k8_4_0 : Qo Tryz.prog hs ks k8_4 0 ⟨8, r⟩ s = stepV s (some 6) (val (addrAdd (s.regs.get undefV 2) 0)) (Qo Tryz.prog hs ks k8_4 1 ⟨8, r⟩) := oR (by kernel_rfl)
theorem k8_4_1 : Qo Tryz.prog hs ks k8_4 1 ⟨8, r⟩ s = stepV s (some 7) (xLoad Tryz.prog 3 s.h.get (s.regs.get undefV 6)) (Qo Tryz.prog hs ks k8_4 2 ⟨8, r⟩) := oR (by kernel_rfl)
theorem k8_4_2 : Qo Tryz.prog hs ks k8_4 2 ⟨8, r⟩ s = stepV s (some 8) (val (addrAdd (s.regs.get undefV 3) 0)) (Qo Tryz.prog hs ks k8_4 3 ⟨8, r⟩) := oR (by kernel_rfl)
theorem k8_4_3 : Qo Tryz.prog hs ks k8_4 3 ⟨8, r⟩ s = stepV s (some 9) (xLoad Tryz.prog 3 s.h.get (s.regs.get undefV 8)) (Qo Tryz.prog hs ks k8_4 4 ⟨8, r⟩) := oR (by kernel_rfl)
theorem k8_4_4 : Qo Tryz.prog hs ks k8_4 4 ⟨8, r⟩ s = stepV s (some 10) (val (binV Tryz.prog .neq 3 false false (s.regs.get undefV 7) (s.regs.get undefV 9))) (Qo Tryz.prog hs ks k8_4 5 ⟨8, r⟩) := oR (by kernel_rfl)
theorem k8_4_5 : Qo Tryz.prog hs ks k8_4 5 ⟨8, r⟩ s = stepV s (some 11) (some { v := (s.regs.get undefV 10) }) (Qo Tryz.prog hs ks k8_4 6 ⟨8, r⟩) := oR (by kernel_rfl)
theorem k8_4_6 : Qo Tryz.prog hs ks k8_4 6 ⟨8, r⟩ s = if wantB (s.regs.get undefV 11) false = true then stepV s (some 12) (val (addrAdd (s.regs.get undefV 2) 1)) (Qo Tryz.prog hs ks k8_4 7 ⟨8, r⟩) else Qo Tryz.prog hs ks k8_4 7 ⟨8, r⟩ (skipS s (some 12)) := oI (by kernel_rfl)
theorem k8_4_7 : Qo Tryz.prog hs ks k8_4 7 ⟨8, r⟩ s = if wantB (s.regs.get undefV 11) false = true then stepV s (some 13) (xLoad Tryz.prog 35 s.h.get (s.regs.get undefV 12)) (Qo Tryz.prog hs ks k8_4 8 ⟨8, r⟩) else Qo Tryz.prog hs ks k8_4 8 ⟨8, r⟩ (skipS s (some 13)) := oI (by kernel_rfl)
theorem k8_4_8 : Qo Tryz.prog hs ks k8_4 8 ⟨8, r⟩ s = if wantB (s.regs.get undefV 11) false = true then stepV s (some 14) (builtinV Tryz.prog false s.h.get s.h.n .len [35] [(s.regs.get undefV 13)]) (Qo Tryz.prog hs ks k8_4 9 ⟨8, r⟩) else Qo Tryz.prog hs ks k8_4 9 ⟨8, r⟩ (skipS s (some 14)) := oI (by kernel_rfl)
theorem k8_4_9 : Qo Tryz.prog hs ks k8_4 9 ⟨8, r⟩ s = if wantB (s.regs.get undefV 11) false = true then stepV s (some 15) (val (addrAdd (s.regs.get undefV 3) 1)) (Qo Tryz.prog hs ks k8_4 10 ⟨8, r⟩) else Qo Tryz.prog hs ks k8_4 10 ⟨8, r⟩ (skipS s (some 15)) := oI (by kernel_rfl)
theorem k8_4_10 : Qo Tryz.prog hs ks k8_4 10 ⟨8, r⟩ s = if wantB (s.regs.get undefV 11) false = true then stepV s (some 16) (xLoad Tryz.prog 35 s.h.get (s.regs.get undefV 15)) (Qo Tryz.prog hs ks k8_4 11 ⟨8, r⟩) else Qo Tryz.prog hs ks k8_4 11 ⟨8, r⟩ (skipS s (some 16)) := oI (by kernel_rfl)
theorem k8_4_11 : Qo Tryz.prog hs ks k8_4 11 ⟨8, r⟩ s = if wantB (s.regs.get undefV 11) false = true then stepV s (some 17) (builtinV Tryz.prog false s.h.get s.h.n .len [35] [(s.regs.get undefV 16)]) (Qo Tryz.prog hs ks k8_4 12 ⟨8, r⟩) else Qo Tryz.prog hs ks k8_4 12 ⟨8, r⟩ (skipS s (some 17)) := oI (by kernel_rfl)
theorem k8_4_12 : Qo Tryz.prog hs ks k8_4 12 ⟨8, r⟩ s = if wantB (s.regs.get undefV 11) false = true then stepV s (some 18) (val (binV Tryz.prog .neq 3 false false (s.regs.get undefV 14) (s.regs.get undefV 17))) (Qo Tryz.prog hs ks k8_4 13 ⟨8, r⟩) else Qo Tryz.prog hs ks k8_4 13 ⟨8, r⟩ (skipS s (some 18)) := oI (by kernel_rfl)
theorem k8_4_13 : Qo Tryz.prog hs ks k8_4 13 ⟨8, r⟩ s = stepV s (some 19) (xPick (s.regs.get undefV 11) (.bool true) (s.regs.get undefV 18)) (Qo Tryz.prog hs ks k8_4 14 ⟨8, r⟩) := oR (by kernel_rfl)
theorem k8_4_14 : Qo Tryz.prog hs ks k8_4 14 ⟨8, r⟩ s = some [(.normal, s)] := Qo_end (by kernel_rfl) s
noncomputable def k8_6 : Code := codeA k8_5
noncomputable def k8_7 : Code := codeB k8_5
theorem k8_5_c : Qc Tryz.prog hs ks ⟨8, r⟩ k8_5 s = condV (s.regs.get undefV 19) (Qc Tryz.prog hs ks ⟨8, r⟩ k8_6) (Qc Tryz.prog hs ks ⟨8, r⟩ k8_7) s := Qc_cond (t := 19) (a := k8_6) (b := k8_7) (by kernel_rfl) _ _
noncomputable def k8_8 : Code := codeA k8_6
noncomputable def k8_9 : Code := codeB k8_6
theorem k8_6_c : Qc Tryz.prog hs ks ⟨8, r⟩ k8_6 s = thenV (Qc Tryz.prog hs ks ⟨8, r⟩ k8_8 s) (Qc Tryz.prog hs ks ⟨8, r⟩ k8_9) := Qc_seq (a := k8_8) (b := k8_9) (by kernel_rfl) _ _
theorem k8_8_c : Qc Tryz.prog hs ks ⟨8, r⟩ k8_8 s = Qo Tryz.prog hs ks k8_8 0 ⟨8, r⟩ s := Qc_region (id := 2) (ops := regOps k8_8) (by kernel_rfl) (by kernel_rfl) s
theorem k8_8_0 : Qo Tryz.prog hs ks k8_8 0 ⟨8, r⟩ s = stepV s (some 4) (some { v := (.bool false) }) (Qo Tryz.prog hs ks k8_8 1 ⟨8, r⟩) := oR (by kernel_rfl)
theorem k8_8_1 : Qo Tryz.prog hs ks k8_8 1 ⟨8, r⟩ s = some [(.normal, s)] := Qo_end (by kernel_rfl) s
theorem k8_9_c : Qc Tryz.prog hs ks ⟨8, r⟩ k8_9 s = some [(.ret, s)] := Qc_ret (by kernel_rfl) _ _
theorem k8_7_c : Qc Tryz.prog hs ks ⟨8, r⟩ k8_7 s = some [(.normal, s)] := Qc_skip (by kernel_rfl) _ _
noncomputable def k8_10 : Code := codeA k8_3
noncomputable def k8_11 : Code := codeB k8_3
theorem k8_3_c : Qc Tryz.prog hs ks ⟨8, r⟩ k8_3 s = thenV (Qc Tryz.prog hs ks ⟨8, r⟩ k8_10 s) (Qc Tryz.prog hs ks ⟨8, r⟩ k8_11) := Qc_seq (a := k8_10) (b := k8_11) (by kernel_rfl) _ _
noncomputable def k8_12 : Code := codeA k8_10
noncomputable def k8_13 : Code := codeB k8_10
theorem k8_10_c : Qc Tryz.prog hs ks ⟨8, r⟩ k8_10 s = thenV (Qc Tryz.prog hs ks ⟨8, r⟩ k8_12 s) (Qc Tryz.prog hs ks ⟨8, r⟩ k8_13) := Qc_seq (a := k8_12) (b := k8_13) (by kernel_rfl) _ _
theorem k8_12_c : Qc Tryz.prog hs ks ⟨8, r⟩ k8_12 s = Qo Tryz.prog hs ks k8_12 0 ⟨8, r⟩ s := Qc_region (id := 3) (ops := regOps k8_12) (by kernel_rfl) (by kernel_rfl) s
theorem k8_12_0 : Qo Tryz.prog hs ks k8_12 0 ⟨8, r⟩ s = stepV s (some 5) (some { v := (.int .i64 (0)) }) (Qo Tryz.prog hs ks k8_12 1 ⟨8, r⟩) := oR (by kernel_rfl)
theorem k8_12_1 : Qo Tryz.prog hs ks k8_12 1 ⟨8, r⟩ s = some [(.normal, s)] := Qo_end (by kernel_rfl) s
noncomputable def k8_14 : Code := codeA k8_13
theorem k8_13_c : Qc Tryz.prog hs ks ⟨8, r⟩ k8_13 s = blockV 0 (Qc Tryz.prog hs ks ⟨8, r⟩ k8_14 s) := Qc_block (b := k8_14) (by kernel_rfl) _ _
noncomputable def k8_15 : Code := codeA k8_14
theorem k8_14_l : Qc Tryz.prog hs ks ⟨8, r⟩ k8_14 s = thenV (Qc Tryz.prog hs ks ⟨8, r⟩ k8_15 s) (Qc Tryz.prog hs ks ⟨8, r⟩ k8_14) := Qc_loop (b := k8_15) (by kernel_rfl) _ _
noncomputable def k8_16 : Code := codeA k8_15
noncomputable def k8_17 : Code := codeB k8_15
theorem k8_15_c : Qc Tryz.prog hs ks ⟨8, r⟩ k8_15 s = thenV (Qc Tryz.prog hs ks ⟨8, r⟩ k8_16 s) (Qc Tryz.prog hs ks ⟨8, r⟩ k8_17) := Qc_seq (a := k8_16) (b := k8_17) (by kernel_rfl) _ _
noncomputable def k8_18 : Code := codeA k8_16
noncomputable def k8_19 : Code := codeB k8_16
theorem k8_16_c : Qc Tryz.prog hs ks ⟨8, r⟩ k8_16 s = thenV (Qc Tryz.prog hs ks ⟨8, r⟩ k8_18 s) (Qc Tryz.prog hs ks ⟨8, r⟩ k8_19) := Qc_seq (a := k8_18) (b := k8_19) (by kernel_rfl) _ _
theorem k8_18_c : Qc Tryz.prog hs ks ⟨8, r⟩ k8_18 s = Qo Tryz.prog hs ks k8_18 0 ⟨8, r⟩ s := Qc_region (id := 4) (ops := regOps k8_18) (by kernel_rfl) (by kernel_rfl) s
theorem k8_18_0 : Qo Tryz.prog hs ks k8_18 0 ⟨8, r⟩ s = stepV s (some 20) (some { v := (s.regs.get undefV 5) }) (Qo Tryz.prog hs ks k8_18 1 ⟨8, r⟩) := oR (by kernel_rfl)
theorem k8_18_1 : Qo Tryz.prog hs ks k8_18 1 ⟨8, r⟩ s = stepV s (some 21) (val (addrAdd (s.regs.get undefV 2) 1)) (Qo Tryz.prog hs ks k8_18 2 ⟨8, r⟩) := oR (by kernel_rfl)
theorem k8_18_2 : Qo Tryz.prog hs ks k8_18 2 ⟨8, r⟩ s = stepV s (some 22) (xLoad Tryz.prog 35 s.h.get (s.regs.get undefV 21)) (Qo Tryz.prog hs ks k8_18 3 ⟨8, r⟩) := oR (by kernel_rfl)
theorem k8_18_3 : Qo Tryz.prog hs ks k8_18 3 ⟨8, r⟩ s = stepV s (some 23) (builtinV Tryz.prog false s.h.get s.h.n .len [35] [(s.regs.get undefV 22)]) (Qo Tryz.prog hs ks k8_18 4 ⟨8, r⟩) := oR (by kernel_rfl)
theorem k8_18_4 : Qo Tryz.prog hs ks k8_18 4 ⟨8, r⟩ s = stepV s (some 24) (val (binV Tryz.prog .lss 3 false false (s.regs.get undefV 20) (s.regs.get undefV 23))) (Qo Tryz.prog hs ks k8_18 5 ⟨8, r⟩) := oR (by kernel_rfl)
theorem k8_18_5 : Qo Tryz.prog hs ks k8_18 5 ⟨8, r⟩ s = some [(.normal, s)] := Qo_end (by kernel_rfl) s
noncomputable def k8_20 : Code := codeA k8_19
noncomputable def k8_21 : Code := codeB k8_19
theorem k8_19_c : Qc Tryz.prog hs ks ⟨8, r⟩ k8_19 s = condV (s.regs.get undefV 24) (Qc Tryz.prog hs ks ⟨8, r⟩ k8_20) (Qc Tryz.prog hs ks ⟨8, r⟩ k8_21) s := Qc_cond (t := 24) (a := k8_20) (b := k8_21) (by kernel_rfl) _ _
theorem k8_20_c : Qc Tryz.prog hs ks ⟨8, r⟩ k8_20 s = some [(.normal, s)] := Qc_skip (by kernel_rfl) _ _
theorem k8_21_c : Qc Tryz.prog hs ks ⟨8, r⟩ k8_21 s = some [(.exit 0, s)] := Qc_exit (by kernel_rfl) _ _
noncomputable def k8_22 : Code := codeA k8_17
noncomputable def k8_23 : Code := codeB k8_17
theorem k8_17_c : Qc Tryz.prog hs ks ⟨8, r⟩ k8_17 s = thenV (Qc Tryz.prog hs ks ⟨8, r⟩ k8_22 s) (Qc Tryz.prog hs ks ⟨8, r⟩ k8_23) := Qc_seq (a := k8_22) (b := k8_23) (by kernel_rfl) _ _
noncomputable def k8_24 : Code := codeA k8_22
theorem k8_22_c : Qc Tryz.prog hs ks ⟨8, r⟩ k8_22 s = blockV 1 (Qc Tryz.prog hs ks ⟨8, r⟩ k8_24 s) := Qc_block (b := k8_24) (by kernel_rfl) _ _
noncomputable def k8_25 : Code := codeA k8_24
noncomputable def k8_26 : Code := codeB k8_24
theorem k8_24_c : Qc Tryz.prog hs ks ⟨8, r⟩ k8_24 s = thenV (Qc Tryz.prog hs ks ⟨8, r⟩ k8_25 s) (Qc Tryz.prog hs ks ⟨8, r⟩ k8_26) := Qc_seq (a := k8_25) (b := k8_26) (by kernel_rfl) _ _
noncomputable def k8_25_bef : List Nat := [0, 1, 0, 7, 15, 0, 32, 0, 224, 480, 1023]
theorem k8_25_c : Qc Tryz.prog hs ks ⟨8, r⟩ k8_25 s = Qd Tryz.prog hs ks k8_25 k8_25_bef 0 ⟨8, r⟩ [] s := Qc_draw (id := 6) (ops := regOps k8_25) (by kernel_rfl) (by kernel_rfl) (by kernel_rfl) (by kernel_rfl) s
theorem k8_25_0 : Qd Tryz.prog hs ks k8_25 k8_25_bef 0 ⟨8, r⟩ dn s = stepD s (some 27) 0 k8_25_bef dn (val (addrAdd (s.regs.get undefV 2) 1)) (Qd Tryz.prog hs ks k8_25 k8_25_bef 1 ⟨8, r⟩) := dR (by kernel_rfl)
theorem k8_25_1 : Qd Tryz.prog hs ks k8_25 k8_25_bef 1 ⟨8, r⟩ dn s = stepD s (some 28) 1 k8_25_bef dn (xLoad Tryz.prog 35 s.h.get (s.regs.get undefV 27)) (Qd Tryz.prog hs ks k8_25 k8_25_bef 2 ⟨8, r⟩) := dR (by kernel_rfl)
theorem k8_25_2 : Qd Tryz.prog hs ks k8_25 k8_25_bef 2 ⟨8, r⟩ dn s = stepD s (some 29) 2 k8_25_bef dn (some { v := (s.regs.get undefV 5) }) (Qd Tryz.prog hs ks k8_25 k8_25_bef 3 ⟨8, r⟩) := dR (by kernel_rfl)
theorem k8_25_3 : Qd Tryz.prog hs ks k8_25 k8_25_bef 3 ⟨8, r⟩ dn s = stepD s (some 30) 3 k8_25_bef dn (val (indexAddr Tryz.prog 35 (s.regs.get undefV 28) (s.regs.get undefV 29))) (Qd Tryz.prog hs ks k8_25 k8_25_bef 4 ⟨8, r⟩) := dR (by kernel_rfl)
theorem k8_25_4 : Qd Tryz.prog hs ks k8_25 k8_25_bef 4 ⟨8, r⟩ dn s = stepD s (some 31) 4 k8_25_bef dn (xLoad Tryz.prog 74 s.h.get (s.regs.get undefV 30)) (Qd Tryz.prog hs ks k8_25 k8_25_bef 5 ⟨8, r⟩) := dR (by kernel_rfl)
theorem k8_25_5 : Qd Tryz.prog hs ks k8_25 k8_25_bef 5 ⟨8, r⟩ dn s = stepD s (some 32) 5 k8_25_bef dn (val (addrAdd (s.regs.get undefV 3) 1)) (Qd Tryz.prog hs ks k8_25 k8_25_bef 6 ⟨8, r⟩) := dR (by kernel_rfl)
theorem k8_25_6 : Qd Tryz.prog hs ks k8_25 k8_25_bef 6 ⟨8, r⟩ dn s = stepD s (some 33) 6 k8_25_bef dn (xLoad Tryz.prog 35 s.h.get (s.regs.get undefV 32)) (Qd Tryz.prog hs ks k8_25 k8_25_bef 7 ⟨8, r⟩) := dR (by kernel_rfl)
theorem k8_25_7 : Qd Tryz.prog hs ks k8_25 k8_25_bef 7 ⟨8, r⟩ dn s = stepD s (some 34) 7 k8_25_bef dn (some { v := (s.regs.get undefV 5) }) (Qd Tryz.prog hs ks k8_25 k8_25_bef 8 ⟨8, r⟩) := dR (by kernel_rfl)
theorem k8_25_8 : Qd Tryz.prog hs ks k8_25 k8_25_bef 8 ⟨8, r⟩ dn s = stepD s (some 35) 8 k8_25_bef dn (val (indexAddr Tryz.prog 35 (s.regs.get undefV 33) (s.regs.get undefV 34))) (Qd Tryz.prog hs ks k8_25 k8_25_bef 9 ⟨8, r⟩) := dR (by kernel_rfl)
theorem k8_25_9 : Qd Tryz.prog hs ks k8_25 k8_25_bef 9 ⟨8, r⟩ dn s = stepD s (some 36) 9 k8_25_bef dn (xLoad Tryz.prog 74 s.h.get (s.regs.get undefV 35)) (Qd Tryz.prog hs ks k8_25 k8_25_bef 10 ⟨8, r⟩) := dR (by kernel_rfl)
theorem k8_25_10 : Qd Tryz.prog hs ks k8_25 k8_25_bef 10 ⟨8, r⟩ dn s = stepD s (some 37) 10 k8_25_bef dn (val (binV Tryz.prog .neq 74 false false (s.regs.get undefV 31) (s.regs.get undefV 36))) (Qd Tryz.prog hs ks k8_25 k8_25_bef 11 ⟨8, r⟩) := dR (by kernel_rfl)
theorem k8_25_11 : Qd Tryz.prog hs ks k8_25 k8_25_bef 11 ⟨8, r⟩ dn s = some [(.normal, s)] := Qd_end (by kernel_rfl) dn s
noncomputable def k8_27 : Code := codeA k8_26
noncomputable def k8_28 : Code := codeB k8_26
theorem k8_26_c : Qc Tryz.prog hs ks ⟨8, r⟩ k8_26 s = condV (s.regs.get undefV 37) (Qc Tryz.prog hs ks ⟨8, r⟩ k8_27) (Qc Tryz.prog hs ks ⟨8, r⟩ k8_28) s := Qc_cond (t := 37) (a := k8_27) (b := k8_28) (by kernel_rfl) _ _
noncomputable def k8_29 : Code := codeA k8_27
noncomputable def k8_30 : Code := codeB k8_27
theorem k8_27_c : Qc Tryz.prog hs ks ⟨8, r⟩ k8_27 s = thenV (Qc Tryz.prog hs ks ⟨8, r⟩ k8_29 s) (Qc Tryz.prog hs ks ⟨8, r⟩ k8_30) := Qc_seq (a := k8_29) (b := k8_30) (by kernel_rfl) _ _
theorem k8_29_c : Qc Tryz.prog hs ks ⟨8, r⟩ k8_29 s = Qo Tryz.prog hs ks k8_29 0 ⟨8, r⟩ s := Qc_region (id := 7) (ops := regOps k8_29) (by kernel_rfl) (by kernel_rfl) s
theorem k8_29_0 : Qo Tryz.prog hs ks k8_29 0 ⟨8, r⟩ s = stepV s (some 4) (some { v := (.bool false) }) (Qo Tryz.prog hs ks k8_29 1 ⟨8, r⟩) := oR (by kernel_rfl)
theorem k8_29_1 : Qo Tryz.prog hs ks k8_29 1 ⟨8, r⟩ s = some [(.normal, s)] := Qo_end (by kernel_rfl) s
theorem k8_30_c : Qc Tryz.prog hs ks ⟨8, r⟩ k8_30 s = some [(.ret, s)] := Qc_ret (by kernel_rfl) _ _
theorem k8_28_c : Qc Tryz.prog hs ks ⟨8, r⟩ k8_28 s = some [(.normal, s)] := Qc_skip (by kernel_rfl) _ _
theorem k8_23_c : Qc Tryz.prog hs ks ⟨8, r⟩ k8_23 s = Qo Tryz.prog hs ks k8_23 0 ⟨8, r⟩ s := Qc_region (id := 5) (ops := regOps k8_23) (by kernel_rfl) (by kernel_rfl) s
theorem k8_23_0 : Qo Tryz.prog hs ks k8_23 0 ⟨8, r⟩ s = stepV s (some 25) (some { v := (s.regs.get undefV 5) }) (Qo Tryz.prog hs ks k8_23 1 ⟨8, r⟩) := oR (by kernel_rfl)
theorem k8_23_1 : Qo Tryz.prog hs ks k8_23 1 ⟨8, r⟩ s = stepV s (some 26) (val (binV Tryz.prog .add 3 false true (s.regs.get undefV 25) (.int .i64 (1)))) (Qo Tryz.prog hs ks k8_23 2 ⟨8, r⟩) := oR (by kernel_rfl)
theorem k8_23_2 : Qo Tryz.prog hs ks k8_23 2 ⟨8, r⟩ s = stepV s (some 5) (some { v := (s.regs.get undefV 26) }) (Qo Tryz.prog hs ks k8_23 3 ⟨8, r⟩) := oR (by kernel_rfl)
theorem k8_23_3 : Qo Tryz.prog hs ks k8_23 3 ⟨8, r⟩ s = some [(.normal, s)] := Qo_end (by kernel_rfl) s
noncomputable def k8_31 : Code := codeA k8_11
noncomputable def k8_32 : Code := codeB k8_11
theorem k8_11_c : Qc Tryz.prog hs ks ⟨8, r⟩ k8_11 s = thenV (Qc Tryz.prog hs ks ⟨8, r⟩ k8_31 s) (Qc Tryz.prog hs ks ⟨8, r⟩ k8_32) := Qc_seq (a := k8_31) (b := k8_32) (by kernel_rfl) _ _
theorem k8_31_c : Qc Tryz.prog hs ks ⟨8, r⟩ k8_31 s = Qo Tryz.prog hs ks k8_31 0 ⟨8, r⟩ s := Qc_region (id := 8) (ops := regOps k8_31) (by kernel_rfl) (by kernel_rfl) s
theorem k8_31_0 : Qo Tryz.prog hs ks k8_31 0 ⟨8, r⟩ s = stepV s (some 4) (some { v := (.bool true) }) (Qo Tryz.prog hs ks k8_31 1 ⟨8, r⟩) := oR (by kernel_rfl)
theorem k8_31_1 : Qo Tryz.prog hs ks k8_31 1 ⟨8, r⟩ s = some [(.normal, s)] := Qo_end (by kernel_rfl) s
theorem k8_32_c : Qc Tryz.prog hs ks ⟨8, r⟩ k8_32 s = some [(.ret, s)] := Qc_ret (by kernel_rfl) _ _
/-! function 15 -/
noncomputable def k15 : Code := Tryz.f15.body.getD .skip
theorem k15_fun (args : List V) (ha : args.length ≤ 23) (h : H) : (EV Tryz.prog hs ks).call 15 args h = endsV Tryz.prog hs ks Tryz.f15 (Qc Tryz.prog hs ks ⟨15, none⟩ k15 (S 23 (setF args 0 fun _ => undefV) [] h)) := EV_fun Tryz.func15 (by kernel_rfl) (by kernel_rfl) (by decide) ha h
theorem k15_ret (f : Nat → V) (h : H) : endsV Tryz.prog hs ks Tryz.f15 (some [(.ret, S 23 f [] h)]) = resV (resultVs Tryz.prog (S 23 f [] h) [.cell 2 37]) h := ends_one (by kernel_rfl) (Or.inl rfl) _ _
theorem k15_nrm (f : Nat → V) (h : H) : endsV Tryz.prog hs ks Tryz.f15 (some [(.normal, S 23 f [] h)]) = resV (resultVs Tryz.prog (S 23 f [] h) [.cell 2 37]) h := ends_one (by kernel_rfl) (Or.inr rfl) _ _
noncomputable def k15_0 : Code := codeA k15
noncomputable def k15_1 : Code := codeB k15
theorem k15_c : Qc Tryz.prog hs ks ⟨15, r⟩ k15 s = thenV (Qc Tryz.prog hs ks ⟨15, r⟩ k15_0 s) (Qc Tryz.prog hs ks ⟨15, r⟩ k15_1) := Qc_seq (a := k15_0) (b := k15_1) (by kernel_rfl) _ _
theorem k15_0_c : Qc Tryz.prog hs ks ⟨15, r⟩ k15_0 s = Qo Tryz.prog hs ks k15_0 0 ⟨15, r⟩ s := Qc_region (id := 0) (ops := regOps k15_0) (by kernel_rfl) (by kernel_rfl) s
theorem k15_0_0 : Qo Tryz.prog hs ks k15_0 0 ⟨15, r⟩ s = stepV s (some 2) (some { v := .ptr s.h.n 0, nw := [.row 0 [.int .i64 (0), .nils]] }) (Qo Tryz.prog hs ks k15_0 1 ⟨15, r⟩) := oR (by kernel_rfl)
theorem k15_0_1 : Qo Tryz.prog hs ks k15_0 1 ⟨15, r⟩ s = some [(.normal, s)] := Qo_end (by kernel_rfl) s
noncomputable def k15_2 : Code := codeA k15_1
noncomputable def k15_3 : Code := codeB k15_1
theorem k15_1_c : Qc Tryz.prog hs ks ⟨15, r⟩ k15_1 s = thenV (Qc Tryz.prog hs ks ⟨15, r⟩ k15_2 s) (Qc Tryz.prog hs ks ⟨15, r⟩ k15_3) := Qc_seq (a := k15_2) (b := k15_3) (by kernel_rfl) _ _
theorem k15_2_c : Qc Tryz.prog hs ks ⟨15, r⟩ k15_2 s = Qo Tryz.prog hs ks k15_2 0 ⟨15, r⟩ s := Qc_region (id := 1) (ops := regOps k15_2) (by kernel_rfl) (by kernel_rfl) s
theorem k15_2_0 : Qo Tryz.prog hs ks k15_2 0 ⟨15, r⟩ s = stepV s (some 4) (some { v := (s.regs.get undefV 0) }) (Qo Tryz.prog hs ks k15_2 1 ⟨15, r⟩) := oR (by kernel_rfl)
theorem k15_2_1 : Qo Tryz.prog hs ks k15_2 1 ⟨15, r⟩ s = stepV s (some 5) (xNilCheck Tryz.prog (s.regs.get undefV 4)) (Qo Tryz.prog hs ks k15_2 2 ⟨15, r⟩) := oR (by kernel_rfl)
theorem k15_2_2 : Qo Tryz.prog hs ks k15_2 2 ⟨15, r⟩ s = stepV s (some 6) (val (addrAdd (s.regs.get undefV 5) 8)) (Qo Tryz.prog hs ks k15_2 3 ⟨15, r⟩) := oR (by kernel_rfl)
theorem k15_2_3 : Qo Tryz.prog hs ks k15_2 3 ⟨15, r⟩ s = stepV s (some 7) (val (addrAdd (s.regs.get undefV 6) 3)) (Qo Tryz.prog hs ks k15_2 4 ⟨15, r⟩) := oR (by kernel_rfl)
theorem k15_2_4 : Qo Tryz.prog hs ks k15_2 4 ⟨15, r⟩ s = stepV s (some 8) (xLoad Tryz.prog 3 s.h.get (s.regs.get undefV 7)) (Qo Tryz.prog hs ks k15_2 5 ⟨15, r⟩) := oR (by kernel_rfl)
theorem k15_2_5 : Qo Tryz.prog hs ks k15_2 5 ⟨15, r⟩ s = stepV s (some 9) (val (binV Tryz.prog .sub 3 true false (.int .i64 (-1)) (s.regs.get undefV 8))) (Qo Tryz.prog hs ks k15_2 6 ⟨15, r⟩) := oR (by kernel_rfl)
theorem k15_2_6 : Qo Tryz.prog hs ks k15_2 6 ⟨15, r⟩ s = stepV s (some 10) (val (build Tryz.prog 74 [(0, (s.regs.get undefV 9))])) (Qo Tryz.prog hs ks k15_2 7 ⟨15, r⟩) := oR (by kernel_rfl)
theorem k15_2_7 : Qo Tryz.prog hs ks k15_2 7 ⟨15, r⟩ s = stepV s (some 11) (litS Tryz.prog false 35 1 [(0, (s.regs.get undefV 10))] s.h.n) (Qo Tryz.prog hs ks k15_2 8 ⟨15, r⟩) := oR (by kernel_rfl)
theorem k15_2_8 : Qo Tryz.prog hs ks k15_2 8 ⟨15, r⟩ s = stepV s (some 12) (val (build Tryz.prog 37 [(1, (s.regs.get undefV 11))])) (Qo Tryz.prog hs ks k15_2 9 ⟨15, r⟩) := oR (by kernel_rfl)
theorem k15_2_9 : Qo Tryz.prog hs ks k15_2 9 ⟨15, r⟩ s = stepV s (some 3) (some { v := .ptr s.h.n 0, nw := [.row 0 [.int .i64 (0), .nils]] }) (Qo Tryz.prog hs ks k15_2 10 ⟨15, r⟩) := oR (by kernel_rfl)
theorem k15_2_10 : Qo Tryz.prog hs ks k15_2 10 ⟨15, r⟩ s = stepV s none (xStore Tryz.prog 37 s.h.get (s.regs.get undefV 3) (s.regs.get undefV 12)) (Qo Tryz.prog hs ks k15_2 11 ⟨15, r⟩) := oR (by kernel_rfl)
theorem k15_2_11 : Qo Tryz.prog hs ks k15_2 11 ⟨15, r⟩ s = some [(.normal, s)] := Qo_end (by kernel_rfl) s
noncomputable def k15_4 : Code := codeA k15_3
noncomputable def k15_5 : Code := codeB k15_3
theorem k15_3_c : Qc Tryz.prog hs ks ⟨15, r⟩ k15_3 s = thenV (Qc Tryz.prog hs ks ⟨15, r⟩ k15_4 s) (Qc Tryz.prog hs ks ⟨15, r⟩ k15_5) := Qc_seq (a := k15_4) (b := k15_5) (by kernel_rfl) _ _
theorem k15_4_c : Qc Tryz.prog hs ks ⟨15, r⟩ k15_4 s = Qo Tryz.prog hs ks k15_4 0 ⟨15, r⟩ s := Qc_region (id := 2) (ops := regOps k15_4) (by kernel_rfl) (by kernel_rfl) s
theorem k15_4_0 : Qo Tryz.prog hs ks k15_4 0 ⟨15, r⟩ s = stepV s (some 13) (some { v := (s.regs.get undefV 0) }) (Qo Tryz.prog hs ks k15_4 1 ⟨15, r⟩) := oR (by kernel_rfl)
theorem k15_4_1 : Qo Tryz.prog hs ks k15_4 1 ⟨15, r⟩ s = stepV s (some 14) (xNilCheck Tryz.prog (s.regs.get undefV 13)) (Qo Tryz.prog hs ks k15_4 2 ⟨15, r⟩) := oR (by kernel_rfl)
theorem k15_4_2 : Qo Tryz.prog hs ks k15_4 2 ⟨15, r⟩ s = stepV s (some 15) (val (addrAdd (s.regs.get undefV 14) 8)) (Qo Tryz.prog hs ks k15_4 3 ⟨15, r⟩) := oR (by kernel_rfl)
theorem k15_4_3 : Qo Tryz.prog hs ks k15_4 3 ⟨15, r⟩ s = stepV s (some 16) (val (addrAdd (s.regs.get undefV 15) 3)) (Qo Tryz.prog hs ks k15_4 4 ⟨15, r⟩) := oR (by kernel_rfl)
theorem k15_4_4 : Qo Tryz.prog hs ks k15_4 4 ⟨15, r⟩ s = stepV s (some 17) (xLoad Tryz.prog 3 s.h.get (s.regs.get undefV 16)) (Qo Tryz.prog hs ks k15_4 5 ⟨15, r⟩) := oR (by kernel_rfl)
theorem k15_4_5 : Qo Tryz.prog hs ks k15_4 5 ⟨15, r⟩ s = stepV s (some 18) (val (binV Tryz.prog .add 3 false true (s.regs.get undefV 17) (.int .i64 (1)))) (Qo Tryz.prog hs ks k15_4 6 ⟨15, r⟩) := oR (by kernel_rfl)
theorem k15_4_6 : Qo Tryz.prog hs ks k15_4 6 ⟨15, r⟩ s = stepV s (some 19) (xNilCheck Tryz.prog (s.regs.get undefV 13)) (Qo Tryz.prog hs ks k15_4 7 ⟨15, r⟩) := oR (by kernel_rfl)
theorem k15_4_7 : Qo Tryz.prog hs ks k15_4 7 ⟨15, r⟩ s = stepV s (some 20) (val (addrAdd (s.regs.get undefV 19) 8)) (Qo Tryz.prog hs ks k15_4 8 ⟨15, r⟩) := oR (by kernel_rfl)
theorem k15_4_8 : Qo Tryz.prog hs ks k15_4 8 ⟨15, r⟩ s = stepV s (some 21) (val (addrAdd (s.regs.get undefV 20) 3)) (Qo Tryz.prog hs ks k15_4 9 ⟨15, r⟩) := oR (by kernel_rfl)
theorem k15_4_9 : Qo Tryz.prog hs ks k15_4 9 ⟨15, r⟩ s = stepV s none (xStore Tryz.prog 3 s.h.get (s.regs.get undefV 21) (s.regs.get undefV 18)) (Qo Tryz.prog hs ks k15_4 10 ⟨15, r⟩) := oR (by kernel_rfl)
theorem k15_4_10 : Qo Tryz.prog hs ks k15_4 10 ⟨15, r⟩ s = some [(.normal, s)] := Qo_end (by kernel_rfl) s
noncomputable def k15_6 : Code := codeA k15_5
noncomputable def k15_7 : Code := codeB k15_5
theorem k15_5_c : Qc Tryz.prog hs ks ⟨15, r⟩ k15_5 s = thenV (Qc Tryz.prog hs ks ⟨15, r⟩ k15_6 s) (Qc Tryz.prog hs ks ⟨15, r⟩ k15_7) := Qc_seq (a := k15_6) (b := k15_7) (by kernel_rfl) _ _
theorem k15_6_c : Qc Tryz.prog hs ks ⟨15, r⟩ k15_6 s = Qo Tryz.prog hs ks k15_6 0 ⟨15, r⟩ s := Qc_region (id := 3) (ops := regOps k15_6) (by kernel_rfl) (by kernel_rfl) s
theorem k15_6_0 : Qo Tryz.prog hs ks k15_6 0 ⟨15, r⟩ s = stepV s (some 22) (xLoad Tryz.prog 37 s.h.get (s.regs.get undefV 3)) (Qo Tryz.prog hs ks k15_6 1 ⟨15, r⟩) := oR (by kernel_rfl)
theorem k15_6_1 : Qo Tryz.prog hs ks k15_6 1 ⟨15, r⟩ s = stepV s none (xStore Tryz.prog 37 s.h.get (s.regs.get undefV 2) (s.regs.get undefV 22)) (Qo Tryz.prog hs ks k15_6 2 ⟨15, r⟩) := oR (by kernel_rfl)
theorem k15_6_2 : Qo Tryz.prog hs ks k15_6 2 ⟨15, r⟩ s = some [(.normal, s)] := Qo_end (by kernel_rfl) s
theorem k15_7_c : Qc Tryz.prog hs ks ⟨15, r⟩ k15_7 s = some [(.ret, s)] := Qc_ret (by kernel_rfl) _ _
/-! function 16 -/
noncomputable def k16 : Code := Tryz.f16.body.getD .skip
theorem k16_fun (args : List V) (ha : args.length ≤ 48) (h : H) : (EV Tryz.prog hs ks).call 16 args h = endsV Tryz.prog hs ks Tryz.f16 (Qc Tryz.prog hs ks ⟨16, none⟩ k16 (S 48 (setF args 0 fun _ => undefV) [] h)) := EV_fun Tryz.func16 (by kernel_rfl) (by kernel_rfl) (by decide) ha h
theorem k16_ret (f : Nat → V) (h : H) : endsV Tryz.prog hs ks Tryz.f16 (some [(.ret, S 48 f [] h)]) = resV (resultVs Tryz.prog (S 48 f [] h) [.cell 4 37, .tmp 5]) h := ends_one (by kernel_rfl) (Or.inl rfl) _ _
theorem k16_nrm (f : Nat → V) (h : H) : endsV Tryz.prog hs ks Tryz.f16 (some [(.normal, S 48 f [] h)]) = resV (resultVs Tryz.prog (S 48 f [] h) [.cell 4 37, .tmp 5]) h := ends_one (by kernel_rfl) (Or.inr rfl) _ _
noncomputable def k16_0 : Code := codeA k16
noncomputable def k16_1 : Code := codeB k16
theorem k16_c : Qc Tryz.prog hs ks ⟨16, r⟩ k16 s = thenV (Qc Tryz.prog hs ks ⟨16, r⟩ k16_0 s) (Qc Tryz.prog hs ks ⟨16, r⟩ k16_1) := Qc_seq (a := k16_0) (b := k16_1) (by kernel_rfl) _ _
theorem k16_0_c : Qc Tryz.prog hs ks ⟨16, r⟩ k16_0 s = Qo Tryz.prog hs ks k16_0 0 ⟨16, r⟩ s := Qc_region (id := 0) (ops := regOps k16_0) (by kernel_rfl) (by kernel_rfl) s
theorem k16_0_0 : Qo Tryz.prog hs ks k16_0 0 ⟨16, r⟩ s = stepV s (some 3) (some { v := .ptr s.h.n 0, nw := [.row 0 (V.cells (s.regs.get undefV 1))] }) (Qo Tryz.prog hs ks k16_0 1 ⟨16, r⟩) := oR (by kernel_rfl)
theorem k16_0_1 : Qo Tryz.prog hs ks k16_0 1 ⟨16, r⟩ s = stepV s (some 4) (some { v := .ptr s.h.n 0, nw := [.row 0 [.int .i64 (0), .nils]] }) (Qo Tryz.prog hs ks k16_0 2 ⟨16, r⟩) := oR (by kernel_rfl)
theorem k16_0_2 : Qo Tryz.prog hs ks k16_0 2 ⟨16, r⟩ s = stepV s (some 5) (some { v := (.int .i64 (0)) }) (Qo Tryz.prog hs ks k16_0 3 ⟨16, r⟩) := oR (by kernel_rfl)
theorem k16_0_3 : Qo Tryz.prog hs ks k16_0 3 ⟨16, r⟩ s = some [(.normal, s)] := Qo_end (by kernel_rfl) s
noncomputable def k16_2 : Code := codeA k16_1
noncomputable def k16_3 : Code := codeB k16_1
theorem k16_1_c : Qc Tryz.prog hs ks ⟨16, r⟩ k16_1 s = thenV (Qc Tryz.prog hs ks ⟨16, r⟩ k16_2 s) (Qc Tryz.prog hs ks ⟨16, r⟩ k16_3) := Qc_seq (a := k16_2) (b := k16_3) (by kernel_rfl) _ _
theorem k16_2_c : Qc Tryz.prog hs ks ⟨16, r⟩ k16_2 s = Qo Tryz.prog hs ks k16_2 0 ⟨16, r⟩ s := Qc_region (id := 1) (ops := regOps k16_2) (by kernel_rfl) (by kernel_rfl) s
theorem k16_2_0 : Qo Tryz.prog hs ks k16_2 0 ⟨16, r⟩ s = stepV s (some 6) (some { v := .ptr s.h.n 0, nw := [.row 0 [.int .i64 (0), .nils]] }) (Qo Tryz.prog hs ks k16_2 1 ⟨16, r⟩) := oR (by kernel_rfl)
theorem k16_2_1 : Qo Tryz.prog hs ks k16_2 1 ⟨16, r⟩ s = some [(.normal, s)] := Qo_end (by kernel_rfl) s
noncomputable def k16_4 : Code := codeA k16_3
noncomputable def k16_5 : Code := codeB k16_3
theorem k16_3_c : Qc Tryz.prog hs ks ⟨16, r⟩ k16_3 s = thenV (Qc Tryz.prog hs ks ⟨16, r⟩ k16_4 s) (Qc Tryz.prog hs ks ⟨16, r⟩ k16_5) := Qc_seq (a := k16_4) (b := k16_5) (by kernel_rfl) _ _
theorem k16_4_c : Qc Tryz.prog hs ks ⟨16, r⟩ k16_4 s = Qo Tryz.prog hs ks k16_4 0 ⟨16, r⟩ s := Qc_region (id := 2) (ops := regOps k16_4) (by kernel_rfl) (by kernel_rfl) s
theorem k16_4_0 : Qo Tryz.prog hs ks k16_4 0 ⟨16, r⟩ s = stepV s (some 7) (some { v := (.int .i64 (0)) }) (Qo Tryz.prog hs ks k16_4 1 ⟨16, r⟩) := oR (by kernel_rfl)
theorem k16_4_1 : Qo Tryz.prog hs ks k16_4 1 ⟨16, r⟩ s = some [(.normal, s)] := Qo_end (by kernel_rfl) s
noncomputable def k16_6 : Code := codeA k16_5
noncomputable def k16_7 : Code := codeB k16_5
theorem k16_5_c : Qc Tryz.prog hs ks ⟨16, r⟩ k16_5 s = thenV (Qc Tryz.prog hs ks ⟨16, r⟩ k16_6 s) (Qc Tryz.prog hs ks ⟨16, r⟩ k16_7) := Qc_seq (a := k16_6) (b := k16_7) (by kernel_rfl) _ _
noncomputable def k16_8 : Code := codeA k16_6
noncomputable def k16_9 : Code := codeB k16_6
theorem k16_6_c : Qc Tryz.prog hs ks ⟨16, r⟩ k16_6 s = thenV (Qc Tryz.prog hs ks ⟨16, r⟩ k16_8 s) (Qc Tryz.prog hs ks ⟨16, r⟩ k16_9) := Qc_seq (a := k16_8) (b := k16_9) (by kernel_rfl) _ _
theorem k16_8_c : Qc Tryz.prog hs ks ⟨16, r⟩ k16_8 s = Qo Tryz.prog hs ks k16_8 0 ⟨16, r⟩ s := Qc_region (id := 3) (ops := regOps k16_8) (by kernel_rfl) (by kernel_rfl) s
theorem k16_8_0 : Qo Tryz.prog hs ks k16_8 0 ⟨16, r⟩ s = stepV s (some 9) (val (addrAdd (s.regs.get undefV 3) 0)) (Qo Tryz.prog hs ks k16_8 1 ⟨16, r⟩) := oR (by kernel_rfl)
theorem k16_8_1 : Qo Tryz.prog hs ks k16_8 1 ⟨16, r⟩ s = stepV s (some 10) (xLoad Tryz.prog 9 s.h.get (s.regs.get undefV 9)) (Qo Tryz.prog hs ks k16_8 2 ⟨16, r⟩) := oR (by kernel_rfl)
theorem k16_8_2 : Qo Tryz.prog hs ks k16_8 2 ⟨16, r⟩ s = stepV s (some 11) (val (binV Tryz.prog .eql 9 false true (s.regs.get undefV 10) (.str ⟨#[]⟩))) (Qo Tryz.prog hs ks k16_8 3 ⟨16, r⟩) := oR (by kernel_rfl)
theorem k16_8_3 : Qo Tryz.prog hs ks k16_8 3 ⟨16, r⟩ s = some [(.normal, s)] := Qo_end (by kernel_rfl) s
noncomputable def k16_10 : Code := codeA k16_9
noncomputable def k16_11 : Code := codeB k16_9
theorem k16_9_c : Qc Tryz.prog hs ks ⟨16, r⟩ k16_9 s = condV (s.regs.get undefV 11) (Qc Tryz.prog hs ks ⟨16, r⟩ k16_10) (Qc Tryz.prog hs ks ⟨16, r⟩ k16_11) s := Qc_cond (t := 11) (a := k16_10) (b := k16_11) (by kernel_rfl) _ _
theorem k16_10_c : Qc Tryz.prog hs ks ⟨16, r⟩ k16_10 s = Qo Tryz.prog hs ks k16_10 0 ⟨16, r⟩ s := Qc_region (id := 4) (ops := regOps k16_10) (by kernel_rfl) (by kernel_rfl) s
theorem k16_10_0 : Qo Tryz.prog hs ks k16_10 0 ⟨16, r⟩ s = stepV s (some 13) (val (addrAdd (s.regs.get undefV 3) 1)) (Qo Tryz.prog hs ks k16_10 1 ⟨16, r⟩) := oR (by kernel_rfl)
theorem k16_10_1 : Qo Tryz.prog hs ks k16_10 1 ⟨16, r⟩ s = stepV s (some 14) (xLoad Tryz.prog 3 s.h.get (s.regs.get undefV 13)) (Qo Tryz.prog hs ks k16_10 2 ⟨16, r⟩) := oR (by kernel_rfl)
theorem k16_10_2 : Qo Tryz.prog hs ks k16_10 2 ⟨16, r⟩ s = thenC (some 15) s (callS Tryz.prog hs ks 38 [(s.regs.get undefV 14)] s.h) (Qo Tryz.prog hs ks k16_10 3 ⟨16, r⟩) := cR (by kernel_rfl)
theorem k16_10_3 : Qo Tryz.prog hs ks k16_10 3 ⟨16, r⟩ s = stepV s (some 12) (some { v := (s.regs.get undefV 15) }) (Qo Tryz.prog hs ks k16_10 4 ⟨16, r⟩) := oR (by kernel_rfl)
theorem k16_10_4 : Qo Tryz.prog hs ks k16_10 4 ⟨16, r⟩ s = stepV s (some 16) (xExtract (s.regs.get undefV 12) 0) (Qo Tryz.prog hs ks k16_10 5 ⟨16, r⟩) := oR (by kernel_rfl)
theorem k16_10_5 : Qo Tryz.prog hs ks k16_10 5 ⟨16, r⟩ s = stepV s (some 17) (xExtract (s.regs.get undefV 12) 1) (Qo Tryz.prog hs ks k16_10 6 ⟨16, r⟩) := oR (by kernel_rfl)
theorem k16_10_6 : Qo Tryz.prog hs ks k16_10 6 ⟨16, r⟩ s = stepV s none (xStore Tryz.prog 37 s.h.get (s.regs.get undefV 6) (s.regs.get undefV 16)) (Qo Tryz.prog hs ks k16_10 7 ⟨16, r⟩) := oR (by kernel_rfl)
theorem k16_10_7 : Qo Tryz.prog hs ks k16_10 7 ⟨16, r⟩ s = stepV s (some 7) (some { v := (s.regs.get undefV 17) }) (Qo Tryz.prog hs ks k16_10 8 ⟨16, r⟩) := oR (by kernel_rfl)
theorem k16_10_8 : Qo Tryz.prog hs ks k16_10 8 ⟨16, r⟩ s = some [(.normal, s)] := Qo_end (by kernel_rfl) s
noncomputable def k16_12 : Code := codeA k16_11
noncomputable def k16_13 : Code := codeB k16_11
theorem k16_11_c : Qc Tryz.prog hs ks ⟨16, r⟩ k16_11 s = thenV (Qc Tryz.prog hs ks ⟨16, r⟩ k16_12 s) (Qc Tryz.prog hs ks ⟨16, r⟩ k16_13) := Qc_seq (a := k16_12) (b := k16_13) (by kernel_rfl) _ _
theorem k16_12_c : Qc Tryz.prog hs ks ⟨16, r⟩ k16_12 s = Qo Tryz.prog hs ks k16_12 0 ⟨16, r⟩ s := Qc_region (id := 5) (ops := regOps k16_12) (by kernel_rfl) (by kernel_rfl) s
theorem k16_12_0 : Qo Tryz.prog hs ks k16_12 0 ⟨16, r⟩ s = stepV s (some 18) (some { v := (s.regs.get undefV 0) }) (Qo Tryz.prog hs ks k16_12 1 ⟨16, r⟩) := oR (by kernel_rfl)
theorem k16_12_1 : Qo Tryz.prog hs ks k16_12 1 ⟨16, r⟩ s = stepV s (some 19) (builtinV Tryz.prog false s.h.get s.h.n .len [22] [(s.regs.get undefV 18)]) (Qo Tryz.prog hs ks k16_12 2 ⟨16, r⟩) := oR (by kernel_rfl)
theorem k16_12_2 : Qo Tryz.prog hs ks k16_12 2 ⟨16, r⟩ s = stepV s (some 20) (val (binV Tryz.prog .sub 3 false true (s.regs.get undefV 19) (.int .i64 (1)))) (Qo Tryz.prog hs ks k16_12 3 ⟨16, r⟩) := oR (by kernel_rfl)
theorem k16_12_3 : Qo Tryz.prog hs ks k16_12 3 ⟨16, r⟩ s = stepV s (some 8) (some { v := (s.regs.get undefV 20) }) (Qo Tryz.prog hs ks k16_12 4 ⟨16, r⟩) := oR (by kernel_rfl)
theorem k16_12_4 : Qo Tryz.prog hs ks k16_12 4 ⟨16, r⟩ s = some [(.normal, s)] := Qo_end (by kernel_rfl) s
noncomputable def k16_14 : Code := codeA k16_13
noncomputable def k16_15 : Code := codeB k16_13
theorem k16_13_c : Qc Tryz.prog hs ks ⟨16, r⟩ k16_13 s = thenV (Qc Tryz.prog hs ks ⟨16, r⟩ k16_14 s) (Qc Tryz.prog hs ks ⟨16, r⟩ k16_15) := Qc_seq (a := k16_14) (b := k16_15) (by kernel_rfl) _ _
noncomputable def k16_16 : Code := codeA k16_14
theorem k16_14_c : Qc Tryz.prog hs ks ⟨16, r⟩ k16_14 s = blockV 0 (Qc Tryz.prog hs ks ⟨16, r⟩ k16_16 s) := Qc_block (b := k16_16) (by kernel_rfl) _ _
noncomputable def k16_17 : Code := codeA k16_16
theorem k16_16_l : Qc Tryz.prog hs ks ⟨16, r⟩ k16_16 s = thenV (Qc Tryz.prog hs ks ⟨16, r⟩ k16_17 s) (Qc Tryz.prog hs ks ⟨16, r⟩ k16_16) := Qc_loop (b := k16_17) (by kernel_rfl) _ _
noncomputable def k16_18 : Code := codeA k16_17
noncomputable def k16_19 : Code := codeB k16_17
theorem k16_17_c : Qc Tryz.prog hs ks ⟨16, r⟩ k16_17 s = thenV (Qc Tryz.prog hs ks ⟨16, r⟩ k16_18 s) (Qc Tryz.prog hs ks ⟨16, r⟩ k16_19) := Qc_seq (a := k16_18) (b := k16_19) (by kernel_rfl) _ _
noncomputable def k16_20 : Code := codeA k16_18
noncomputable def k16_21 : Code := codeB k16_18
theorem k16_18_c : Qc Tryz.prog hs ks ⟨16, r⟩ k16_18 s = thenV (Qc Tryz.prog hs ks ⟨16, r⟩ k16_20 s) (Qc Tryz.prog hs ks ⟨16, r⟩ k16_21) := Qc_seq (a := k16_20) (b := k16_21) (by kernel_rfl) _ _
noncomputable def k16_20_bef : List Nat := [0, 1, 3, 7, 7, 31, 63, 7, 135, 511, 1023]
theorem k16_20_c : Qc Tryz.prog hs ks ⟨16, r⟩ k16_20 s = Qd Tryz.prog hs ks k16_20 k16_20_bef 0 ⟨16, r⟩ [] s := Qc_draw (id := 6) (ops := regOps k16_20) (by kernel_rfl) (by kernel_rfl) (by kernel_rfl) (by kernel_rfl) s
theorem k16_20_0 : Qd Tryz.prog hs ks k16_20 k16_20_bef 0 ⟨16, r⟩ dn s = stepD s (some 21) 0 k16_20_bef dn (some { v := (s.regs.get undefV 8) }) (Qd Tryz.prog hs ks k16_20 k16_20_bef 1 ⟨16, r⟩) := dR (by kernel_rfl)
theorem k16_20_1 : Qd Tryz.prog hs ks k16_20 k16_20_bef 1 ⟨16, r⟩ dn s = stepD s (some 22) 1 k16_20_bef dn (val (binV Tryz.prog .geq 3 false true (s.regs.get undefV 21) (.int .i64 (0)))) (Qd Tryz.prog hs ks k16_20 k16_20_bef 2 ⟨16, r⟩) := dR (by kernel_rfl)
theorem k16_20_2 : Qd Tryz.prog hs ks k16_20 k16_20_bef 2 ⟨16, r⟩ dn s = stepD s (some 23) 2 k16_20_bef dn (some { v := (s.regs.get undefV 22) }) (Qd Tryz.prog hs ks k16_20 k16_20_bef 3 ⟨16, r⟩) := dR (by kernel_rfl)
theorem k16_20_3 : Qd Tryz.prog hs ks k16_20 k16_20_bef 3 ⟨16, r⟩ dn s = if wantB (s.regs.get undefV 23) true = true then stepD s (some 24) 3 k16_20_bef dn (some { v := (s.regs.get undefV 0) }) (Qd Tryz.prog hs ks k16_20 k16_20_bef 4 ⟨16, r⟩) else Qd Tryz.prog hs ks k16_20 k16_20_bef 4 ⟨16, r⟩ dn (skipS s (some 24)) := dI (by kernel_rfl)
theorem k16_20_4 : Qd Tryz.prog hs ks k16_20 k16_20_bef 4 ⟨16, r⟩ dn s = if wantB (s.regs.get undefV 23) true = true then stepD s (some 25) 4 k16_20_bef dn (some { v := (s.regs.get undefV 8) }) (Qd Tryz.prog hs ks k16_20 k16_20_bef 5 ⟨16, r⟩) else Qd Tryz.prog hs ks k16_20 k16_20_bef 5 ⟨16, r⟩ dn (skipS s (some 25)) := dI (by kernel_rfl)
theorem k16_20_5 : Qd Tryz.prog hs ks k16_20 k16_20_bef 5 ⟨16, r⟩ dn s = if wantB (s.regs.get undefV 23) true = true then stepD s (some 26) 5 k16_20_bef dn (val (indexAddr Tryz.prog 22 (s.regs.get undefV 24) (s.regs.get undefV 25))) (Qd Tryz.prog hs ks k16_20 k16_20_bef 6 ⟨16, r⟩) else Qd Tryz.prog hs ks k16_20 k16_20_bef 6 ⟨16, r⟩ dn (skipS s (some 26)) := dI (by kernel_rfl)
theorem k16_20_6 : Qd Tryz.prog hs ks k16_20 k16_20_bef 6 ⟨16, r⟩ dn s = if wantB (s.regs.get undefV 23) true = true then stepD s (some 27) 6 k16_20_bef dn (xLoad Tryz.prog 9 s.h.get (s.regs.get undefV 26)) (Qd Tryz.prog hs ks k16_20 k16_20_bef 7 ⟨16, r⟩) else Qd Tryz.prog hs ks k16_20 k16_20_bef 7 ⟨16, r⟩ dn (skipS s (some 27)) := dI (by kernel_rfl)
theorem k16_20_7 : Qd Tryz.prog hs ks k16_20 k16_20_bef 7 ⟨16, r⟩ dn s = if wantB (s.regs.get undefV 23) true = true then stepD s (some 28) 7 k16_20_bef dn (val (addrAdd (s.regs.get undefV 3) 0)) (Qd Tryz.prog hs ks k16_20 k16_20_bef 8 ⟨16, r⟩) else Qd Tryz.prog hs ks k16_20 k16_20_bef 8 ⟨16, r⟩ dn (skipS s (some 28)) := dI (by kernel_rfl)
theorem k16_20_8 : Qd Tryz.prog hs ks k16_20 k16_20_bef 8 ⟨16, r⟩ dn s = if wantB (s.regs.get undefV 23) true = true then stepD s (some 29) 8 k16_20_bef dn (xLoad Tryz.prog 9 s.h.get (s.regs.get undefV 28)) (Qd Tryz.prog hs ks k16_20 k16_20_bef 9 ⟨16, r⟩) else Qd Tryz.prog hs ks k16_20 k16_20_bef 9 ⟨16, r⟩ dn (skipS s (some 29)) := dI (by kernel_rfl)
theorem k16_20_9 : Qd Tryz.prog hs ks k16_20 k16_20_bef 9 ⟨16, r⟩ dn s = if wantB (s.regs.get undefV 23) true = true then stepD s (some 30) 9 k16_20_bef dn (val (binV Tryz.prog .neq 9 false false (s.regs.get undefV 27) (s.regs.get undefV 29))) (Qd Tryz.prog hs ks k16_20 k16_20_bef 10 ⟨16, r⟩) else Qd Tryz.prog hs ks k16_20 k16_20_bef 10 ⟨16, r⟩ dn (skipS s (some 30)) := dI (by kernel_rfl)
theorem k16_20_10 : Qd Tryz.prog hs ks k16_20 k16_20_bef 10 ⟨16, r⟩ dn s = stepD s (some 31) 10 k16_20_bef dn (xPick (s.regs.get undefV 23) (s.regs.get undefV 30) (.bool false)) (Qd Tryz.prog hs ks k16_20 k16_20_bef 11 ⟨16, r⟩) := dR (by kernel_rfl)
theorem k16_20_11 : Qd Tryz.prog hs ks k16_20 k16_20_bef 11 ⟨16, r⟩ dn s = some [(.normal, s)] := Qd_end (by kernel_rfl) dn s
noncomputable def k16_22 : Code := codeA k16_21
noncomputable def k16_23 : Code := codeB k16_21
theorem k16_21_c : Qc Tryz.prog hs ks ⟨16, r⟩ k16_21 s = condV (s.regs.get undefV 31) (Qc Tryz.prog hs ks ⟨16, r⟩ k16_22) (Qc Tryz.prog hs ks ⟨16, r⟩ k16_23) s := Qc_cond (t := 31) (a := k16_22) (b := k16_23) (by kernel_rfl) _ _
theorem k16_22_c : Qc Tryz.prog hs ks ⟨16, r⟩ k16_22 s = some [(.normal, s)] := Qc_skip (by kernel_rfl) _ _
theorem k16_23_c : Qc Tryz.prog hs ks ⟨16, r⟩ k16_23 s = some [(.exit 0, s)] := Qc_exit (by kernel_rfl) _ _
noncomputable def k16_24 : Code := codeA k16_19
theorem k16_19_c : Qc Tryz.prog hs ks ⟨16, r⟩ k16_19 s = blockV 1 (Qc Tryz.prog hs ks ⟨16, r⟩ k16_24 s) := Qc_block (b := k16_24) (by kernel_rfl) _ _
theorem k16_24_c : Qc Tryz.prog hs ks ⟨16, r⟩ k16_24 s = Qo Tryz.prog hs ks k16_24 0 ⟨16, r⟩ s := Qc_region (id := 7) (ops := regOps k16_24) (by kernel_rfl) (by kernel_rfl) s
theorem k16_24_0 : Qo Tryz.prog hs ks k16_24 0 ⟨16, r⟩ s = stepV s (some 32) (some { v := (s.regs.get undefV 8) }) (Qo Tryz.prog hs ks k16_24 1 ⟨16, r⟩) := oR (by kernel_rfl)
theorem k16_24_1 : Qo Tryz.prog hs ks k16_24 1 ⟨16, r⟩ s = stepV s (some 33) (val (binV Tryz.prog .sub 3 false true (s.regs.get undefV 32) (.int .i64 (1)))) (Qo Tryz.prog hs ks k16_24 2 ⟨16, r⟩) := oR (by kernel_rfl)
theorem k16_24_2 : Qo Tryz.prog hs ks k16_24 2 ⟨16, r⟩ s = stepV s (some 8) (some { v := (s.regs.get undefV 33) }) (Qo Tryz.prog hs ks k16_24 3 ⟨16, r⟩) := oR (by kernel_rfl)
theorem k16_24_3 : Qo Tryz.prog hs ks k16_24 3 ⟨16, r⟩ s = some [(.normal, s)] := Qo_end (by kernel_rfl) s
noncomputable def k16_25 : Code := codeA k16_15
noncomputable def k16_26 : Code := codeB k16_15
theorem k16_15_c : Qc Tryz.prog hs ks ⟨16, r⟩ k16_15 s = thenV (Qc Tryz.prog hs ks ⟨16, r⟩ k16_25 s) (Qc Tryz.prog hs ks ⟨16, r⟩ k16_26) := Qc_seq (a := k16_25) (b := k16_26) (by kernel_rfl) _ _
noncomputable def k16_27 : Code := codeA k16_25
noncomputable def k16_28 : Code := codeB k16_25
theorem k16_25_c : Qc Tryz.prog hs ks ⟨16, r⟩ k16_25 s = thenV (Qc Tryz.prog hs ks ⟨16, r⟩ k16_27 s) (Qc Tryz.prog hs ks ⟨16, r⟩ k16_28) := Qc_seq (a := k16_27) (b := k16_28) (by kernel_rfl) _ _
theorem k16_27_c : Qc Tryz.prog hs ks ⟨16, r⟩ k16_27 s = Qo Tryz.prog hs ks k16_27 0 ⟨16, r⟩ s := Qc_region (id := 8) (ops := regOps k16_27) (by kernel_rfl) (by kernel_rfl) s
theorem k16_27_0 : Qo Tryz.prog hs ks k16_27 0 ⟨16, r⟩ s = stepV s (some 34) (some { v := (s.regs.get undefV 8) }) (Qo Tryz.prog hs ks k16_27 1 ⟨16, r⟩) := oR (by kernel_rfl)
theorem k16_27_1 : Qo Tryz.prog hs ks k16_27 1 ⟨16, r⟩ s = stepV s (some 35) (val (binV Tryz.prog .lss 3 false true (s.regs.get undefV 34) (.int .i64 (0)))) (Qo Tryz.prog hs ks k16_27 2 ⟨16, r⟩) := oR (by kernel_rfl)
theorem k16_27_2 : Qo Tryz.prog hs ks k16_27 2 ⟨16, r⟩ s = some [(.normal, s)] := Qo_end (by kernel_rfl) s
noncomputable def k16_29 : Code := codeA k16_28
noncomputable def k16_30 : Code := codeB k16_28
theorem k16_28_c : Qc Tryz.prog hs ks ⟨16, r⟩ k16_28 s = condV (s.regs.get undefV 35) (Qc Tryz.prog hs ks ⟨16, r⟩ k16_29) (Qc Tryz.prog hs ks ⟨16, r⟩ k16_30) s := Qc_cond (t := 35) (a := k16_29) (b := k16_30) (by kernel_rfl) _ _
noncomputable def k16_31 : Code := codeA k16_29
noncomputable def k16_32 : Code := codeB k16_29
theorem k16_29_c : Qc Tryz.prog hs ks ⟨16, r⟩ k16_29 s = thenV (Qc Tryz.prog hs ks ⟨16, r⟩ k16_31 s) (Qc Tryz.prog hs ks ⟨16, r⟩ k16_32) := Qc_seq (a := k16_31) (b := k16_32) (by kernel_rfl) _ _
theorem k16_31_c : Qc Tryz.prog hs ks ⟨16, r⟩ k16_31 s = Qo Tryz.prog hs ks k16_31 0 ⟨16, r⟩ s := Qc_region (id := 9) (ops := regOps k16_31) (by kernel_rfl) (by kernel_rfl) s
theorem k16_31_0 : Qo Tryz.prog hs ks k16_31 0 ⟨16, r⟩ s = stepV s (some 36) (val (build Tryz.prog 37 [])) (Qo Tryz.prog hs ks k16_31 1 ⟨16, r⟩) := oR (by kernel_rfl)
theorem k16_31_1 : Qo Tryz.prog hs ks k16_31 1 ⟨16, r⟩ s = stepV s none (xStore Tryz.prog 37 s.h.get (s.regs.get undefV 4) (s.regs.get undefV 36)) (Qo Tryz.prog hs ks k16_31 2 ⟨16, r⟩) := oR (by kernel_rfl)
theorem k16_31_2 : Qo Tryz.prog hs ks k16_31 2 ⟨16, r⟩ s = stepV s (some 5) (some { v := (.int .i64 (24)) }) (Qo Tryz.prog hs ks k16_31 3 ⟨16, r⟩) := oR (by kernel_rfl)
theorem k16_31_3 : Qo Tryz.prog hs ks k16_31 3 ⟨16, r⟩ s = some [(.normal, s)] := Qo_end (by kernel_rfl) s
theorem k16_32_c : Qc Tryz.prog hs ks ⟨16, r⟩ k16_32 s = some [(.ret, s)] := Qc_ret (by kernel_rfl) _ _
theorem k16_30_c : Qc Tryz.prog hs ks ⟨16, r⟩ k16_30 s = some [(.normal, s)] := Qc_skip (by kernel_rfl) _ _
theorem k16_26_c : Qc Tryz.prog hs ks ⟨16, r⟩ k16_26 s = Qo Tryz.prog hs ks k16_26 0 ⟨16, r⟩ s := Qc_region (id := 10) (ops := regOps k16_26) (by kernel_rfl) (by kernel_rfl) s
theorem k16_26_0 : Qo Tryz.prog hs ks k16_26 0 ⟨16, r⟩ s = stepV s (some 38) (some { v := (s.regs.get undefV 8) }) (Qo Tryz.prog hs ks k16_26 1 ⟨16, r⟩) := oR (by kernel_rfl)
theorem k16_26_1 : Qo Tryz.prog hs ks k16_26 1 ⟨16, r⟩ s = stepV s (some 39) (val (addrAdd (s.regs.get undefV 3) 1)) (Qo Tryz.prog hs ks k16_26 2 ⟨16, r⟩) := oR (by kernel_rfl)
theorem k16_26_2 : Qo Tryz.prog hs ks k16_26 2 ⟨16, r⟩ s = stepV s (some 40) (xLoad Tryz.prog 3 s.h.get (s.regs.get undefV 39)) (Qo Tryz.prog hs ks k16_26 3 ⟨16, r⟩) := oR (by kernel_rfl)
theorem k16_26_3 : Qo Tryz.prog hs ks k16_26 3 ⟨16, r⟩ s = thenC (some 41) s (callS Tryz.prog hs ks 39 [(s.regs.get undefV 38), (s.regs.get undefV 40)] s.h) (Qo Tryz.prog hs ks k16_26 4 ⟨16, r⟩) := cR (by kernel_rfl)
theorem k16_26_4 : Qo Tryz.prog hs ks k16_26 4 ⟨16, r⟩ s = stepV s (some 37) (some { v := (s.regs.get undefV 41) }) (Qo Tryz.prog hs ks k16_26 5 ⟨16, r⟩) := oR (by kernel_rfl)
theorem k16_26_5 : Qo Tryz.prog hs ks k16_26 5 ⟨16, r⟩ s = stepV s (some 42) (xExtract (s.regs.get undefV 37) 0) (Qo Tryz.prog hs ks k16_26 6 ⟨16, r⟩) := oR (by kernel_rfl)
theorem k16_26_6 : Qo Tryz.prog hs ks k16_26 6 ⟨16, r⟩ s = stepV s (some 43) (xExtract (s.regs.get undefV 37) 1) (Qo Tryz.prog hs ks k16_26 7 ⟨16, r⟩) := oR (by kernel_rfl)
theorem k16_26_7 : Qo Tryz.prog hs ks k16_26 7 ⟨16, r⟩ s = stepV s none (xStore Tryz.prog 37 s.h.get (s.regs.get undefV 6) (s.regs.get undefV 42)) (Qo Tryz.prog hs ks k16_26 8 ⟨16, r⟩) := oR (by kernel_rfl)
theorem k16_26_8 : Qo Tryz.prog hs ks k16_26 8 ⟨16, r⟩ s = stepV s (some 7) (some { v := (s.regs.get undefV 43) }) (Qo Tryz.prog hs ks k16_26 9 ⟨16, r⟩) := oR (by kernel_rfl)
theorem k16_26_9 : Qo Tryz.prog hs ks k16_26 9 ⟨16, r⟩ s = some [(.normal, s)] := Qo_end (by kernel_rfl) s
noncomputable def k16_33 : Code := codeA k16_7
noncomputable def k16_34 : Code := codeB k16_7
theorem k16_7_c : Qc Tryz.prog hs ks ⟨16, r⟩ k16_7 s = thenV (Qc Tryz.prog hs ks ⟨16, r⟩ k16_33 s) (Qc Tryz.prog hs ks ⟨16, r⟩ k16_34) := Qc_seq (a := k16_33) (b := k16_34) (by kernel_rfl) _ _
noncomputable def k16_35 : Code := codeA k16_33
noncomputable def k16_36 : Code := codeB k16_33
theorem k16_33_c : Qc Tryz.prog hs ks ⟨16, r⟩ k16_33 s = thenV (Qc Tryz.prog hs ks ⟨16, r⟩ k16_35 s) (Qc Tryz.prog hs ks ⟨16, r⟩ k16_36) := Qc_seq (a := k16_35) (b := k16_36) (by kernel_rfl) _ _
theorem k16_35_c : Qc Tryz.prog hs ks ⟨16, r⟩ k16_35 s = Qo Tryz.prog hs ks k16_35 0 ⟨16, r⟩ s := Qc_region (id := 11) (ops := regOps k16_35) (by kernel_rfl) (by kernel_rfl) s
theorem k16_35_0 : Qo Tryz.prog hs ks k16_35 0 ⟨16, r⟩ s = stepV s (some 44) (some { v := (s.regs.get undefV 7) }) (Qo Tryz.prog hs ks k16_35 1 ⟨16, r⟩) := oR (by kernel_rfl)
theorem k16_35_1 : Qo Tryz.prog hs ks k16_35 1 ⟨16, r⟩ s = stepV s (some 45) (val (binV Tryz.prog .neq 38 false true (s.regs.get undefV 44) (.int .i64 (0)))) (Qo Tryz.prog hs ks k16_35 2 ⟨16, r⟩) := oR (by kernel_rfl)
theorem k16_35_2 : Qo Tryz.prog hs ks k16_35 2 ⟨16, r⟩ s = some [(.normal, s)] := Qo_end (by kernel_rfl) s
noncomputable def k16_37 : Code := codeA k16_36
noncomputable def k16_38 : Code := codeB k16_36
theorem k16_36_c : Qc Tryz.prog hs ks ⟨16, r⟩ k16_36 s = condV (s.regs.get undefV 45) (Qc Tryz.prog hs ks ⟨16, r⟩ k16_37) (Qc Tryz.prog hs ks ⟨16, r⟩ k16_38) s := Qc_cond (t := 45) (a := k16_37) (b := k16_38) (by kernel_rfl) _ _
noncomputable def k16_39 : Code := codeA k16_37
noncomputable def k16_40 : Code := codeB k16_37
theorem k16_37_c : Qc Tryz.prog hs ks ⟨16, r⟩ k16_37 s = thenV (Qc Tryz.prog hs ks ⟨16, r⟩ k16_39 s) (Qc Tryz.prog hs ks ⟨16, r⟩ k16_40) := Qc_seq (a := k16_39) (b := k16_40) (by kernel_rfl) _ _
theorem k16_39_c : Qc Tryz.prog hs ks ⟨16, r⟩ k16_39 s = Qo Tryz.prog hs ks k16_39 0 ⟨16, r⟩ s := Qc_region (id := 12) (ops := regOps k16_39) (by kernel_rfl) (by kernel_rfl) s
theorem k16_39_0 : Qo Tryz.prog hs ks k16_39 0 ⟨16, r⟩ s = stepV s (some 46) (val (build Tryz.prog 37 [])) (Qo Tryz.prog hs ks k16_39 1 ⟨16, r⟩) := oR (by kernel_rfl)
theorem k16_39_1 : Qo Tryz.prog hs ks k16_39 1 ⟨16, r⟩ s = stepV s none (xStore Tryz.prog 37 s.h.get (s.regs.get undefV 4) (s.regs.get undefV 46)) (Qo Tryz.prog hs ks k16_39 2 ⟨16, r⟩) := oR (by kernel_rfl)
theorem k16_39_2 : Qo Tryz.prog hs ks k16_39 2 ⟨16, r⟩ s = stepV s (some 5) (some { v := (.int .i64 (15)) }) (Qo Tryz.prog hs ks k16_39 3 ⟨16, r⟩) := oR (by kernel_rfl)
theorem k16_39_3 : Qo Tryz.prog hs ks k16_39 3 ⟨16, r⟩ s = some [(.normal, s)] := Qo_end (by kernel_rfl) s
theorem k16_40_c : Qc Tryz.prog hs ks ⟨16, r⟩ k16_40 s = some [(.ret, s)] := Qc_ret (by kernel_rfl) _ _
theorem k16_38_c : Qc Tryz.prog hs ks ⟨16, r⟩ k16_38 s = some [(.normal, s)] := Qc_skip (by kernel_rfl) _ _
noncomputable def k16_41 : Code := codeA k16_34
noncomputable def k16_42 : Code := codeB k16_34
theorem k16_34_c : Qc Tryz.prog hs ks ⟨16, r⟩ k16_34 s = thenV (Qc Tryz.prog hs ks ⟨16, r⟩ k16_41 s) (Qc Tryz.prog hs ks ⟨16, r⟩ k16_42) := Qc_seq (a := k16_41) (b := k16_42) (by kernel_rfl) _ _
theorem k16_41_c : Qc Tryz.prog hs ks ⟨16, r⟩ k16_41 s = Qo Tryz.prog hs ks k16_41 0 ⟨16, r⟩ s := Qc_region (id := 13) (ops := regOps k16_41) (by kernel_rfl) (by kernel_rfl) s
theorem k16_41_0 : Qo Tryz.prog hs ks k16_41 0 ⟨16, r⟩ s = stepV s (some 47) (xLoad Tryz.prog 37 s.h.get (s.regs.get undefV 6)) (Qo Tryz.prog hs ks k16_41 1 ⟨16, r⟩) := oR (by kernel_rfl)
theorem k16_41_1 : Qo Tryz.prog hs ks k16_41 1 ⟨16, r⟩ s = stepV s none (xStore Tryz.prog 37 s.h.get (s.regs.get undefV 4) (s.regs.get undefV 47)) (Qo Tryz.prog hs ks k16_41 2 ⟨16, r⟩) := oR (by kernel_rfl)
theorem k16_41_2 : Qo Tryz.prog hs ks k16_41 2 ⟨16, r⟩ s = stepV s (some 5) (some { v := (.int .i64 (0)) }) (Qo Tryz.prog hs ks k16_41 3 ⟨16, r⟩) := oR (by kernel_rfl)
theorem k16_41_3 : Qo Tryz.prog hs ks k16_41 3 ⟨16, r⟩ s = some [(.normal, s)] := Qo_end (by kernel_rfl) s
theorem k16_42_c : Qc Tryz.prog hs ks ⟨16, r⟩ k16_42 s = some [(.ret, s)] := Qc_ret (by kernel_rfl) _ _
/-! function 17 -/
noncomputable def k17 : Code := Tryz.f17.body.getD .skip
theorem k17_fun (args : List V) (ha : args.length ≤ 39) (h : H) : (EV Tryz.prog hs ks).call 17 args h = endsV Tryz.prog hs ks Tryz.f17 (Qc Tryz.prog hs ks ⟨17, none⟩ k17 (S 39 (setF args 0 fun _ => undefV) [] h)) := EV_fun Tryz.func17 (by kernel_rfl) (by kernel_rfl) (by decide) ha h
theorem k17_ret (f : Nat → V) (h : H) : endsV Tryz.prog hs ks Tryz.f17 (some [(.ret, S 39 f [] h)]) = resV (resultVs Tryz.prog (S 39 f [] h) [.cell 4 37, .tmp 5]) h := ends_one (by kernel_rfl) (Or.inl rfl) _ _
theorem k17_nrm (f : Nat → V) (h : H) : endsV Tryz.prog hs ks Tryz.f17 (some [(.normal, S 39 f [] h)]) = resV (resultVs Tryz.prog (S 39 f [] h) [.cell 4 37, .tmp 5]) h := ends_one (by kernel_rfl) (Or.inr rfl) _ _
noncomputable def k17_0 : Code := codeA k17
noncomputable def k17_1 : Code := codeB k17
theorem k17_c : Qc Tryz.prog hs ks ⟨17, r⟩ k17 s = thenV (Qc Tryz.prog hs ks ⟨17, r⟩ k17_0 s) (Qc Tryz.prog hs ks ⟨17, r⟩ k17_1) := Qc_seq (a := k17_0) (b := k17_1) (by kernel_rfl) _ _
theorem k17_0_c : Qc Tryz.prog hs ks ⟨17, r⟩ k17_0 s = Qo Tryz.prog hs ks k17_0 0 ⟨17, r⟩ s := Qc_region (id := 0) (ops := regOps k17_0) (by kernel_rfl) (by kernel_rfl) s
theorem k17_0_0 : Qo Tryz.prog hs ks k17_0 0 ⟨17, r⟩ s = stepV s (some 2) (some { v := .ptr s.h.n 0, nw := [.row 0 (V.cells (s.regs.get undefV 0))] }) (Qo Tryz.prog hs ks k17_0 1 ⟨17, r⟩) := oR (by kernel_rfl)
theorem k17_0_1 : Qo Tryz.prog hs ks k17_0 1 ⟨17, r⟩ s = stepV s (some 3) (some { v := .ptr s.h.n 0, nw := [.row 0 (V.cells (s.regs.get undefV 1))] }) (Qo Tryz.prog hs ks k17_0 2 ⟨17, r⟩) := oR (by kernel_rfl)
theorem k17_0_2 : Qo Tryz.prog hs ks k17_0 2 ⟨17, r⟩ s = stepV s (some 4) (some { v := .ptr s.h.n 0, nw := [.row 0 [.int .i64 (0), .nils]] }) (Qo Tryz.prog hs ks k17_0 3 ⟨17, r⟩) := oR (by kernel_rfl)
theorem k17_0_3 : Qo Tryz.prog hs ks k17_0 3 ⟨17, r⟩ s = stepV s (some 5) (some { v := (.int .i64 (0)) }) (Qo Tryz.prog hs ks k17_0 4 ⟨17, r⟩) := oR (by kernel_rfl)
theorem k17_0_4 : Qo Tryz.prog hs ks k17_0 4 ⟨17, r⟩ s = some [(.normal, s)] := Qo_end (by kernel_rfl) s
noncomputable def k17_2 : Code := codeA k17_1
noncomputable def k17_3 : Code := codeB k17_1
theorem k17_1_c : Qc Tryz.prog hs ks ⟨17, r⟩ k17_1 s = thenV (Qc Tryz.prog hs ks ⟨17, r⟩ k17_2 s) (Qc Tryz.prog hs ks ⟨17, r⟩ k17_3) := Qc_seq (a := k17_2) (b := k17_3) (by kernel_rfl) _ _
noncomputable def k17_4 : Code := codeA k17_2
noncomputable def k17_5 : Code := codeB k17_2
theorem k17_2_c : Qc Tryz.prog hs ks ⟨17, r⟩ k17_2 s = thenV (Qc Tryz.prog hs ks ⟨17, r⟩ k17_4 s) (Qc Tryz.prog hs ks ⟨17, r⟩ k17_5) := Qc_seq (a := k17_4) (b := k17_5) (by kernel_rfl) _ _
theorem k17_4_c : Qc Tryz.prog hs ks ⟨17, r⟩ k17_4 s = Qo Tryz.prog hs ks k17_4 0 ⟨17, r⟩ s := Qc_region (id := 1) (ops := regOps k17_4) (by kernel_rfl) (by kernel_rfl) s
theorem k17_4_0 : Qo Tryz.prog hs ks k17_4 0 ⟨17, r⟩ s = stepV s (some 8) (xLoad Tryz.prog 37 s.h.get (s.regs.get undefV 2)) (Qo Tryz.prog hs ks k17_4 1 ⟨17, r⟩) := oR (by kernel_rfl)
theorem k17_4_1 : Qo Tryz.prog hs ks k17_4 1 ⟨17, r⟩ s = thenC (some 9) s (callS Tryz.prog hs ks 40 [(s.regs.get undefV 8)] s.h) (Qo Tryz.prog hs ks k17_4 2 ⟨17, r⟩) := cR (by kernel_rfl)
theorem k17_4_2 : Qo Tryz.prog hs ks k17_4 2 ⟨17, r⟩ s = stepV s (some 10) (xUn .not (s.regs.get undefV 9)) (Qo Tryz.prog hs ks k17_4 3 ⟨17, r⟩) := oR (by kernel_rfl)
theorem k17_4_3 : Qo Tryz.prog hs ks k17_4 3 ⟨17, r⟩ s = stepV s (some 11) (some { v := (s.regs.get undefV 10) }) (Qo Tryz.prog hs ks k17_4 4 ⟨17, r⟩) := oR (by kernel_rfl)
theorem k17_4_4 : Qo Tryz.prog hs ks k17_4 4 ⟨17, r⟩ s = if wantB (s.regs.get undefV 11) false = true then stepV s (some 12) (xLoad Tryz.prog 37 s.h.get (s.regs.get undefV 3)) (Qo Tryz.prog hs ks k17_4 5 ⟨17, r⟩) else Qo Tryz.prog hs ks k17_4 5 ⟨17, r⟩ (skipS s (some 12)) := oI (by kernel_rfl)
theorem k17_4_5 : Qo Tryz.prog hs ks k17_4 5 ⟨17, r⟩ s = if wantB (s.regs.get undefV 11) false = true then thenC (some 13) s (callS Tryz.prog hs ks 40 [(s.regs.get undefV 12)] s.h) (Qo Tryz.prog hs ks k17_4 6 ⟨17, r⟩) else Qo Tryz.prog hs ks k17_4 6 ⟨17, r⟩ (skipS s (some 13)) := cI (by kernel_rfl)
theorem k17_4_6 : Qo Tryz.prog hs ks k17_4 6 ⟨17, r⟩ s = if wantB (s.regs.get undefV 11) false = true then stepV s (some 14) (xUn .not (s.regs.get undefV 13)) (Qo Tryz.prog hs ks k17_4 7 ⟨17, r⟩) else Qo Tryz.prog hs ks k17_4 7 ⟨17, r⟩ (skipS s (some 14)) := oI (by kernel_rfl)
theorem k17_4_7 : Qo Tryz.prog hs ks k17_4 7 ⟨17, r⟩ s = stepV s (some 15) (xPick (s.regs.get undefV 11) (.bool true) (s.regs.get undefV 14)) (Qo Tryz.prog hs ks k17_4 8 ⟨17, r⟩) := oR (by kernel_rfl)
theorem k17_4_8 : Qo Tryz.prog hs ks k17_4 8 ⟨17, r⟩ s = some [(.normal, s)] := Qo_end (by kernel_rfl) s
noncomputable def k17_6 : Code := codeA k17_5
noncomputable def k17_7 : Code := codeB k17_5
theorem k17_5_c : Qc Tryz.prog hs ks ⟨17, r⟩ k17_5 s = condV (s.regs.get undefV 15) (Qc Tryz.prog hs ks ⟨17, r⟩ k17_6) (Qc Tryz.prog hs ks ⟨17, r⟩ k17_7) s := Qc_cond (t := 15) (a := k17_6) (b := k17_7) (by kernel_rfl) _ _
noncomputable def k17_8 : Code := codeA k17_6
noncomputable def k17_9 : Code := codeB k17_6
theorem k17_6_c : Qc Tryz.prog hs ks ⟨17, r⟩ k17_6 s = thenV (Qc Tryz.prog hs ks ⟨17, r⟩ k17_8 s) (Qc Tryz.prog hs ks ⟨17, r⟩ k17_9) := Qc_seq (a := k17_8) (b := k17_9) (by kernel_rfl) _ _
theorem k17_8_c : Qc Tryz.prog hs ks ⟨17, r⟩ k17_8 s = Qo Tryz.prog hs ks k17_8 0 ⟨17, r⟩ s := Qc_region (id := 2) (ops := regOps k17_8) (by kernel_rfl) (by kernel_rfl) s
theorem k17_8_0 : Qo Tryz.prog hs ks k17_8 0 ⟨17, r⟩ s = stepV s (some 16) (val (build Tryz.prog 37 [])) (Qo Tryz.prog hs ks k17_8 1 ⟨17, r⟩) := oR (by kernel_rfl)
theorem k17_8_1 : Qo Tryz.prog hs ks k17_8 1 ⟨17, r⟩ s = stepV s none (xStore Tryz.prog 37 s.h.get (s.regs.get undefV 4) (s.regs.get undefV 16)) (Qo Tryz.prog hs ks k17_8 2 ⟨17, r⟩) := oR (by kernel_rfl)
theorem k17_8_2 : Qo Tryz.prog hs ks k17_8 2 ⟨17, r⟩ s = stepV s (some 5) (some { v := (.int .i64 (3)) }) (Qo Tryz.prog hs ks k17_8 3 ⟨17, r⟩) := oR (by kernel_rfl)
theorem k17_8_3 : Qo Tryz.prog hs ks k17_8 3 ⟨17, r⟩ s = some [(.normal, s)] := Qo_end (by kernel_rfl) s
theorem k17_9_c : Qc Tryz.prog hs ks ⟨17, r⟩ k17_9 s = some [(.ret, s)] := Qc_ret (by kernel_rfl) _ _
theorem k17_7_c : Qc Tryz.prog hs ks ⟨17, r⟩ k17_7 s = some [(.normal, s)] := Qc_skip (by kernel_rfl) _ _
noncomputable def k17_10 : Code := codeA k17_3
noncomputable def k17_11 : Code := codeB k17_3
theorem k17_3_c : Qc Tryz.prog hs ks ⟨17, r⟩ k17_3 s = thenV (Qc Tryz.prog hs ks ⟨17, r⟩ k17_10 s) (Qc Tryz.prog hs ks ⟨17, r⟩ k17_11) := Qc_seq (a := k17_10) (b := k17_11) (by kernel_rfl) _ _
theorem k17_10_c : Qc Tryz.prog hs ks ⟨17, r⟩ k17_10 s = Qo Tryz.prog hs ks k17_10 0 ⟨17, r⟩ s := Qc_region (id := 3) (ops := regOps k17_10) (by kernel_rfl) (by kernel_rfl) s
theorem k17_10_0 : Qo Tryz.prog hs ks k17_10 0 ⟨17, r⟩ s = stepV s (some 17) (val (addrAdd (s.regs.get undefV 2) 0)) (Qo Tryz.prog hs ks k17_10 1 ⟨17, r⟩) := oR (by kernel_rfl)
theorem k17_10_1 : Qo Tryz.prog hs ks k17_10 1 ⟨17, r⟩ s = stepV s (some 18) (xLoad Tryz.prog 3 s.h.get (s.regs.get undefV 17)) (Qo Tryz.prog hs ks k17_10 2 ⟨17, r⟩) := oR (by kernel_rfl)
theorem k17_10_2 : Qo Tryz.prog hs ks k17_10 2 ⟨17, r⟩ s = stepV s (some 19) (val (addrAdd (s.regs.get undefV 3) 0)) (Qo Tryz.prog hs ks k17_10 3 ⟨17, r⟩) := oR (by kernel_rfl)
theorem k17_10_3 : Qo Tryz.prog hs ks k17_10 3 ⟨17, r⟩ s = stepV s (some 20) (xLoad Tryz.prog 3 s.h.get (s.regs.get undefV 19)) (Qo Tryz.prog hs ks k17_10 4 ⟨17, r⟩) := oR (by kernel_rfl)
theorem k17_10_4 : Qo Tryz.prog hs ks k17_10 4 ⟨17, r⟩ s = stepV s (some 21) (builtinV Tryz.prog false s.h.get s.h.n .max [3, 3] [(s.regs.get undefV 18), (s.regs.get undefV 20)]) (Qo Tryz.prog hs ks k17_10 5 ⟨17, r⟩) := oR (by kernel_rfl)
theorem k17_10_5 : Qo Tryz.prog hs ks k17_10 5 ⟨17, r⟩ s = stepV s (some 22) (val (build Tryz.prog 37 [(0, (s.regs.get undefV 21))])) (Qo Tryz.prog hs ks k17_10 6 ⟨17, r⟩) := oR (by kernel_rfl)
theorem k17_10_6 : Qo Tryz.prog hs ks k17_10 6 ⟨17, r⟩ s = stepV s (some 6) (some { v := .ptr s.h.n 0, nw := [.row 0 [.int .i64 (0), .nils]] }) (Qo Tryz.prog hs ks k17_10 7 ⟨17, r⟩) := oR (by kernel_rfl)
theorem k17_10_7 : Qo Tryz.prog hs ks k17_10 7 ⟨17, r⟩ s = stepV s none (xStore Tryz.prog 37 s.h.get (s.regs.get undefV 6) (s.regs.get undefV 22)) (Qo Tryz.prog hs ks k17_10 8 ⟨17, r⟩) := oR (by kernel_rfl)
theorem k17_10_8 : Qo Tryz.prog hs ks k17_10 8 ⟨17, r⟩ s = some [(.normal, s)] := Qo_end (by kernel_rfl) s
noncomputable def k17_12 : Code := codeA k17_11
noncomputable def k17_13 : Code := codeB k17_11
theorem k17_11_c : Qc Tryz.prog hs ks ⟨17, r⟩ k17_11 s = thenV (Qc Tryz.prog hs ks ⟨17, r⟩ k17_12 s) (Qc Tryz.prog hs ks ⟨17, r⟩ k17_13) := Qc_seq (a := k17_12) (b := k17_13) (by kernel_rfl) _ _
noncomputable def k17_14 : Code := codeA k17_12
noncomputable def k17_15 : Code := codeB k17_12
theorem k17_12_c : Qc Tryz.prog hs ks ⟨17, r⟩ k17_12 s = thenV (Qc Tryz.prog hs ks ⟨17, r⟩ k17_14 s) (Qc Tryz.prog hs ks ⟨17, r⟩ k17_15) := Qc_seq (a := k17_14) (b := k17_15) (by kernel_rfl) _ _
theorem k17_14_c : Qc Tryz.prog hs ks ⟨17, r⟩ k17_14 s = Qo Tryz.prog hs ks k17_14 0 ⟨17, r⟩ s := Qc_region (id := 4) (ops := regOps k17_14) (by kernel_rfl) (by kernel_rfl) s
theorem k17_14_0 : Qo Tryz.prog hs ks k17_14 0 ⟨17, r⟩ s = stepV s (some 23) (val (addrAdd (s.regs.get undefV 2) 1)) (Qo Tryz.prog hs ks k17_14 1 ⟨17, r⟩) := oR (by kernel_rfl)
theorem k17_14_1 : Qo Tryz.prog hs ks k17_14 1 ⟨17, r⟩ s = stepV s (some 24) (xLoad Tryz.prog 35 s.h.get (s.regs.get undefV 23)) (Qo Tryz.prog hs ks k17_14 2 ⟨17, r⟩) := oR (by kernel_rfl)
theorem k17_14_2 : Qo Tryz.prog hs ks k17_14 2 ⟨17, r⟩ s = stepV s (some 25) (val (addrAdd (s.regs.get undefV 3) 1)) (Qo Tryz.prog hs ks k17_14 3 ⟨17, r⟩) := oR (by kernel_rfl)
theorem k17_14_3 : Qo Tryz.prog hs ks k17_14 3 ⟨17, r⟩ s = stepV s (some 26) (xLoad Tryz.prog 35 s.h.get (s.regs.get undefV 25)) (Qo Tryz.prog hs ks k17_14 4 ⟨17, r⟩) := oR (by kernel_rfl)
theorem k17_14_4 : Qo Tryz.prog hs ks k17_14 4 ⟨17, r⟩ s = thenC (some 27) s (callS Tryz.prog hs ks 41 [(s.regs.get undefV 24), (s.regs.get undefV 26)] s.h) (Qo Tryz.prog hs ks k17_14 5 ⟨17, r⟩) := cR (by kernel_rfl)
theorem k17_14_5 : Qo Tryz.prog hs ks k17_14 5 ⟨17, r⟩ s = some [(.normal, s)] := Qo_end (by kernel_rfl) s
noncomputable def k17_16 : Code := codeA k17_15
theorem k17_15_c : Qc Tryz.prog hs ks ⟨17, r⟩ k17_15 s = blockV 0 (Qc Tryz.prog hs ks ⟨17, r⟩ k17_16 s) := Qc_block (b := k17_16) (by kernel_rfl) _ _
noncomputable def k17_17 : Code := codeA k17_16
noncomputable def k17_18 : Code := codeB k17_16
-- k17_16: range over a function: k17_17 assigns, k17_18 is the body
theorem k17_17_c : Qc Tryz.prog hs ks ⟨17, r⟩ k17_17 s = Qo Tryz.prog hs ks k17_17 0 ⟨17, r⟩ s := Qc_region (id := 5) (ops := regOps k17_17) (by kernel_rfl) (by kernel_rfl) s
theorem k17_17_0 : Qo Tryz.prog hs ks k17_17 0 ⟨17, r⟩ s = stepV s (some 7) (some { v := .ptr s.h.n 0, nw := [.row 0 [.int .i64 (0), .int .i64 (0)]] }) (Qo Tryz.prog hs ks k17_17 1 ⟨17, r⟩) := oR (by kernel_rfl)
theorem k17_17_1 : Qo Tryz.prog hs ks k17_17 1 ⟨17, r⟩ s = stepV s none (xStore Tryz.prog 74 s.h.get (s.regs.get undefV 7) (s.regs.get undefV 28)) (Qo Tryz.prog hs ks k17_17 2 ⟨17, r⟩) := oR (by kernel_rfl)
theorem k17_17_2 : Qo Tryz.prog hs ks k17_17 2 ⟨17, r⟩ s = some [(.normal, s)] := Qo_end (by kernel_rfl) s
noncomputable def k17_19 : Code := codeA k17_18
theorem k17_18_c : Qc Tryz.prog hs ks ⟨17, r⟩ k17_18 s = blockV 1 (Qc Tryz.prog hs ks ⟨17, r⟩ k17_19 s) := Qc_block (b := k17_19) (by kernel_rfl) _ _
theorem k17_19_c : Qc Tryz.prog hs ks ⟨17, r⟩ k17_19 s = Qo Tryz.prog hs ks k17_19 0 ⟨17, r⟩ s := Qc_region (id := 6) (ops := regOps k17_19) (by kernel_rfl) (by kernel_rfl) s
theorem k17_19_0 : Qo Tryz.prog hs ks k17_19 0 ⟨17, r⟩ s = stepV s (some 29) (val (addrAdd (s.regs.get undefV 6) 1)) (Qo Tryz.prog hs ks k17_19 1 ⟨17, r⟩) := oR (by kernel_rfl)
theorem k17_19_1 : Qo Tryz.prog hs ks k17_19 1 ⟨17, r⟩ s = stepV s (some 30) (xLoad Tryz.prog 35 s.h.get (s.regs.get undefV 29)) (Qo Tryz.prog hs ks k17_19 2 ⟨17, r⟩) := oR (by kernel_rfl)
theorem k17_19_2 : Qo Tryz.prog hs ks k17_19 2 ⟨17, r⟩ s = stepV s (some 31) (xLoad Tryz.prog 74 s.h.get (s.regs.get undefV 7)) (Qo Tryz.prog hs ks k17_19 3 ⟨17, r⟩) := oR (by kernel_rfl)
theorem k17_19_3 : Qo Tryz.prog hs ks k17_19 3 ⟨17, r⟩ s = stepV s (some 32) (litS Tryz.prog false 35 1 [(0, (s.regs.get undefV 31))] s.h.n) (Qo Tryz.prog hs ks k17_19 4 ⟨17, r⟩) := oR (by kernel_rfl)
theorem k17_19_4 : Qo Tryz.prog hs ks k17_19 4 ⟨17, r⟩ s = stepV s (some 33) (builtinV Tryz.prog false s.h.get s.h.n .append [35, 35] [(s.regs.get undefV 30), (s.regs.get undefV 32)]) (Qo Tryz.prog hs ks k17_19 5 ⟨17, r⟩) := oR (by kernel_rfl)
theorem k17_19_5 : Qo Tryz.prog hs ks k17_19 5 ⟨17, r⟩ s = stepV s (some 34) (val (addrAdd (s.regs.get undefV 6) 1)) (Qo Tryz.prog hs ks k17_19 6 ⟨17, r⟩) := oR (by kernel_rfl)
theorem k17_19_6 : Qo Tryz.prog hs ks k17_19 6 ⟨17, r⟩ s = stepV s none (xStore Tryz.prog 35 s.h.get (s.regs.get undefV 34) (s.regs.get undefV 33)) (Qo Tryz.prog hs ks k17_19 7 ⟨17, r⟩) := oR (by kernel_rfl)
theorem k17_19_7 : Qo Tryz.prog hs ks k17_19 7 ⟨17, r⟩ s = some [(.normal, s)] := Qo_end (by kernel_rfl) s
noncomputable def k17_20 : Code := codeA k17_13
noncomputable def k17_21 : Code := codeB k17_13
theorem k17_13_c : Qc Tryz.prog hs ks ⟨17, r⟩ k17_13 s = thenV (Qc Tryz.prog hs ks ⟨17, r⟩ k17_20 s) (Qc Tryz.prog hs ks ⟨17, r⟩ k17_21) := Qc_seq (a := k17_20) (b := k17_21) (by kernel_rfl) _ _
theorem k17_20_c : Qc Tryz.prog hs ks ⟨17, r⟩ k17_20 s = Qo Tryz.prog hs ks k17_20 0 ⟨17, r⟩ s := Qc_region (id := 7) (ops := regOps k17_20) (by kernel_rfl) (by kernel_rfl) s
theorem k17_20_0 : Qo Tryz.prog hs ks k17_20 0 ⟨17, r⟩ s = stepV s (some 35) (xLoad Tryz.prog 37 s.h.get (s.regs.get undefV 6)) (Qo Tryz.prog hs ks k17_20 1 ⟨17, r⟩) := oR (by kernel_rfl)
theorem k17_20_1 : Qo Tryz.prog hs ks k17_20 1 ⟨17, r⟩ s = thenC (some 36) s (callS Tryz.prog hs ks 42 [(s.regs.get undefV 35)] s.h) (Qo Tryz.prog hs ks k17_20 2 ⟨17, r⟩) := cR (by kernel_rfl)
theorem k17_20_2 : Qo Tryz.prog hs ks k17_20 2 ⟨17, r⟩ s = stepV s (some 37) (xExtract (s.regs.get undefV 36) 0) (Qo Tryz.prog hs ks k17_20 3 ⟨17, r⟩) := oR (by kernel_rfl)
theorem k17_20_3 : Qo Tryz.prog hs ks k17_20 3 ⟨17, r⟩ s = stepV s (some 38) (xExtract (s.regs.get undefV 36) 1) (Qo Tryz.prog hs ks k17_20 4 ⟨17, r⟩) := oR (by kernel_rfl)
theorem k17_20_4 : Qo Tryz.prog hs ks k17_20 4 ⟨17, r⟩ s = stepV s none (xStore Tryz.prog 37 s.h.get (s.regs.get undefV 4) (s.regs.get undefV 37)) (Qo Tryz.prog hs ks k17_20 5 ⟨17, r⟩) := oR (by kernel_rfl)
theorem k17_20_5 : Qo Tryz.prog hs ks k17_20 5 ⟨17, r⟩ s = stepV s (some 5) (some { v := (s.regs.get undefV 38) }) (Qo Tryz.prog hs ks k17_20 6 ⟨17, r⟩) := oR (by kernel_rfl)
theorem k17_20_6 : Qo Tryz.prog hs ks k17_20 6 ⟨17, r⟩ s = some [(.normal, s)] := Qo_end (by kernel_rfl) s
theorem k17_21_c : Qc Tryz.prog hs ks ⟨17, r⟩ k17_21 s = some [(.ret, s)] := Qc_ret (by kernel_rfl) _ _
/-! function 19 -/
noncomputable def k19 : Code := Tryz.f19.body.getD .skip
theorem k19_fun (args : List V) (ha : args.length ≤ 25) (h : H) : (EV Tryz.prog hs ks).call 19 args h = endsV Tryz.prog hs ks Tryz.f19 (Qc Tryz.prog hs ks ⟨19, none⟩ k19 (S 25 (setF args 0 fun _ => undefV) [] h)) := EV_fun Tryz.func19 (by kernel_rfl) (by kernel_rfl) (by decide) ha h
theorem k19_ret (f : Nat → V) (h : H) : endsV Tryz.prog hs ks Tryz.f19 (some [(.ret, S 25 f [] h)]) = resV (resultVs Tryz.prog (S 25 f [] h) [.cell 4 37, .tmp 5]) h := ends_one (by kernel_rfl) (Or.inl rfl) _ _
theorem k19_nrm (f : Nat → V) (h : H) : endsV Tryz.prog hs ks Tryz.f19 (some [(.normal, S 25 f [] h)]) = resV (resultVs Tryz.prog (S 25 f [] h) [.cell 4 37, .tmp 5]) h := ends_one (by kernel_rfl) (Or.inr rfl) _ _
noncomputable def k19_0 : Code := codeA k19
noncomputable def k19_1 : Code := codeB k19
theorem k19_c : Qc Tryz.prog hs ks ⟨19, r⟩ k19 s = thenV (Qc Tryz.prog hs ks ⟨19, r⟩ k19_0 s) (Qc Tryz.prog hs ks ⟨19, r⟩ k19_1) := Qc_seq (a := k19_0) (b := k19_1) (by kernel_rfl) _ _
theorem k19_0_c : Qc Tryz.prog hs ks ⟨19, r⟩ k19_0 s = Qo Tryz.prog hs ks k19_0 0 ⟨19, r⟩ s := Qc_region (id := 0) (ops := regOps k19_0) (by kernel_rfl) (by kernel_rfl) s
theorem k19_0_0 : Qo Tryz.prog hs ks k19_0 0 ⟨19, r⟩ s = stepV s (some 4) (some { v := .ptr s.h.n 0, nw := [.row 0 [.int .i64 (0), .nils]] }) (Qo Tryz.prog hs ks k19_0 1 ⟨19, r⟩) := oR (by kernel_rfl)
theorem k19_0_1 : Qo Tryz.prog hs ks k19_0 1 ⟨19, r⟩ s = stepV s (some 5) (some { v := (.int .i64 (0)) }) (Qo Tryz.prog hs ks k19_0 2 ⟨19, r⟩) := oR (by kernel_rfl)
theorem k19_0_2 : Qo Tryz.prog hs ks k19_0 2 ⟨19, r⟩ s = some [(.normal, s)] := Qo_end (by kernel_rfl) s
noncomputable def k19_2 : Code := codeA k19_1
noncomputable def k19_3 : Code := codeB k19_1
theorem k19_1_c : Qc Tryz.prog hs ks ⟨19, r⟩ k19_1 s = thenV (Qc Tryz.prog hs ks ⟨19, r⟩ k19_2 s) (Qc Tryz.prog hs ks ⟨19, r⟩ k19_3) := Qc_seq (a := k19_2) (b := k19_3) (by kernel_rfl) _ _
noncomputable def k19_4 : Code := codeA k19_2
noncomputable def k19_5 : Code := codeB k19_2
theorem k19_2_c : Qc Tryz.prog hs ks ⟨19, r⟩ k19_2 s = thenV (Qc Tryz.prog hs ks ⟨19, r⟩ k19_4 s) (Qc Tryz.prog hs ks ⟨19, r⟩ k19_5) := Qc_seq (a := k19_4) (b := k19_5) (by kernel_rfl) _ _
theorem k19_4_c : Qc Tryz.prog hs ks ⟨19, r⟩ k19_4 s = Qo Tryz.prog hs ks k19_4 0 ⟨19, r⟩ s := Qc_region (id := 1) (ops := regOps k19_4) (by kernel_rfl) (by kernel_rfl) s
theorem k19_4_0 : Qo Tryz.prog hs ks k19_4 0 ⟨19, r⟩ s = stepV s (some 6) (some { v := (s.regs.get undefV 0) }) (Qo Tryz.prog hs ks k19_4 1 ⟨19, r⟩) := oR (by kernel_rfl)
theorem k19_4_1 : Qo Tryz.prog hs ks k19_4 1 ⟨19, r⟩ s = stepV s (some 7) (val (binV Tryz.prog .lss 3 false true (s.regs.get undefV 6) (.int .i64 (-65536)))) (Qo Tryz.prog hs ks k19_4 2 ⟨19, r⟩) := oR (by kernel_rfl)
theorem k19_4_2 : Qo Tryz.prog hs ks k19_4 2 ⟨19, r⟩ s = stepV s (some 8) (some { v := (s.regs.get undefV 7) }) (Qo Tryz.prog hs ks k19_4 3 ⟨19, r⟩) := oR (by kernel_rfl)
theorem k19_4_3 : Qo Tryz.prog hs ks k19_4 3 ⟨19, r⟩ s = if wantB (s.regs.get undefV 8) false = true then stepV s (some 9) (some { v := (s.regs.get undefV 0) }) (Qo Tryz.prog hs ks k19_4 4 ⟨19, r⟩) else Qo Tryz.prog hs ks k19_4 4 ⟨19, r⟩ (skipS s (some 9)) := oI (by kernel_rfl)
theorem k19_4_4 : Qo Tryz.prog hs ks k19_4 4 ⟨19, r⟩ s = if wantB (s.regs.get undefV 8) false = true then stepV s (some 10) (val (binV Tryz.prog .geq 3 false true (s.regs.get undefV 9) (.int .i64 (8)))) (Qo Tryz.prog hs ks k19_4 5 ⟨19, r⟩) else Qo Tryz.prog hs ks k19_4 5 ⟨19, r⟩ (skipS s (some 10)) := oI (by kernel_rfl)
theorem k19_4_5 : Qo Tryz.prog hs ks k19_4 5 ⟨19, r⟩ s = stepV s (some 11) (xPick (s.regs.get undefV 8) (.bool true) (s.regs.get undefV 10)) (Qo Tryz.prog hs ks k19_4 6 ⟨19, r⟩) := oR (by kernel_rfl)
theorem k19_4_6 : Qo Tryz.prog hs ks k19_4 6 ⟨19, r⟩ s = stepV s (some 12) (some { v := (s.regs.get undefV 11) }) (Qo Tryz.prog hs ks k19_4 7 ⟨19, r⟩) := oR (by kernel_rfl)
theorem k19_4_7 : Qo Tryz.prog hs ks k19_4 7 ⟨19, r⟩ s = if wantB (s.regs.get undefV 12) false = true then stepV s (some 13) (some { v := (s.regs.get undefV 1) }) (Qo Tryz.prog hs ks k19_4 8 ⟨19, r⟩) else Qo Tryz.prog hs ks k19_4 8 ⟨19, r⟩ (skipS s (some 13)) := oI (by kernel_rfl)
theorem k19_4_8 : Qo Tryz.prog hs ks k19_4 8 ⟨19, r⟩ s = if wantB (s.regs.get undefV 12) false = true then stepV s (some 14) (val (binV Tryz.prog .lss 3 false true (s.regs.get undefV 13) (.int .i64 (0)))) (Qo Tryz.prog hs ks k19_4 9 ⟨19, r⟩) else Qo Tryz.prog hs ks k19_4 9 ⟨19, r⟩ (skipS s (some 14)) := oI (by kernel_rfl)
theorem k19_4_9 : Qo Tryz.prog hs ks k19_4 9 ⟨19, r⟩ s = stepV s (some 15) (xPick (s.regs.get undefV 12) (.bool true) (s.regs.get undefV 14)) (Qo Tryz.prog hs ks k19_4 10 ⟨19, r⟩) := oR (by kernel_rfl)
theorem k19_4_10 : Qo Tryz.prog hs ks k19_4 10 ⟨19, r⟩ s = some [(.normal, s)] := Qo_end (by kernel_rfl) s
noncomputable def k19_6 : Code := codeA k19_5
noncomputable def k19_7 : Code := codeB k19_5
theorem k19_5_c : Qc Tryz.prog hs ks ⟨19, r⟩ k19_5 s = condV (s.regs.get undefV 15) (Qc Tryz.prog hs ks ⟨19, r⟩ k19_6) (Qc Tryz.prog hs ks ⟨19, r⟩ k19_7) s := Qc_cond (t := 15) (a := k19_6) (b := k19_7) (by kernel_rfl) _ _
noncomputable def k19_8 : Code := codeA k19_6
noncomputable def k19_9 : Code := codeB k19_6
theorem k19_6_c : Qc Tryz.prog hs ks ⟨19, r⟩ k19_6 s = thenV (Qc Tryz.prog hs ks ⟨19, r⟩ k19_8 s) (Qc Tryz.prog hs ks ⟨19, r⟩ k19_9) := Qc_seq (a := k19_8) (b := k19_9) (by kernel_rfl) _ _
theorem k19_8_c : Qc Tryz.prog hs ks ⟨19, r⟩ k19_8 s = Qo Tryz.prog hs ks k19_8 0 ⟨19, r⟩ s := Qc_region (id := 2) (ops := regOps k19_8) (by kernel_rfl) (by kernel_rfl) s
theorem k19_8_0 : Qo Tryz.prog hs ks k19_8 0 ⟨19, r⟩ s = stepV s (some 16) (val (build Tryz.prog 37 [])) (Qo Tryz.prog hs ks k19_8 1 ⟨19, r⟩) := oR (by kernel_rfl)
theorem k19_8_1 : Qo Tryz.prog hs ks k19_8 1 ⟨19, r⟩ s = stepV s none (xStore Tryz.prog 37 s.h.get (s.regs.get undefV 4) (s.regs.get undefV 16)) (Qo Tryz.prog hs ks k19_8 2 ⟨19, r⟩) := oR (by kernel_rfl)
theorem k19_8_2 : Qo Tryz.prog hs ks k19_8 2 ⟨19, r⟩ s = stepV s (some 5) (some { v := (.int .i64 (2)) }) (Qo Tryz.prog hs ks k19_8 3 ⟨19, r⟩) := oR (by kernel_rfl)
theorem k19_8_3 : Qo Tryz.prog hs ks k19_8 3 ⟨19, r⟩ s = some [(.normal, s)] := Qo_end (by kernel_rfl) s
theorem k19_9_c : Qc Tryz.prog hs ks ⟨19, r⟩ k19_9 s = some [(.ret, s)] := Qc_ret (by kernel_rfl) _ _
theorem k19_7_c : Qc Tryz.prog hs ks ⟨19, r⟩ k19_7 s = some [(.normal, s)] := Qc_skip (by kernel_rfl) _ _
noncomputable def k19_10 : Code := codeA k19_3
noncomputable def k19_11 : Code := codeB k19_3
theorem k19_3_c : Qc Tryz.prog hs ks ⟨19, r⟩ k19_3 s = thenV (Qc Tryz.prog hs ks ⟨19, r⟩ k19_10 s) (Qc Tryz.prog hs ks ⟨19, r⟩ k19_11) := Qc_seq (a := k19_10) (b := k19_11) (by kernel_rfl) _ _
noncomputable def k19_12 : Code := codeA k19_10
noncomputable def k19_13 : Code := codeB k19_10
theorem k19_10_c : Qc Tryz.prog hs ks ⟨19, r⟩ k19_10 s = thenV (Qc Tryz.prog hs ks ⟨19, r⟩ k19_12 s) (Qc Tryz.prog hs ks ⟨19, r⟩ k19_13) := Qc_seq (a := k19_12) (b := k19_13) (by kernel_rfl) _ _
theorem k19_12_c : Qc Tryz.prog hs ks ⟨19, r⟩ k19_12 s = Qo Tryz.prog hs ks k19_12 0 ⟨19, r⟩ s := Qc_region (id := 3) (ops := regOps k19_12) (by kernel_rfl) (by kernel_rfl) s
theorem k19_12_0 : Qo Tryz.prog hs ks k19_12 0 ⟨19, r⟩ s = stepV s (some 17) (some { v := (s.regs.get undefV 1) }) (Qo Tryz.prog hs ks k19_12 1 ⟨19, r⟩) := oR (by kernel_rfl)
theorem k19_12_1 : Qo Tryz.prog hs ks k19_12 1 ⟨19, r⟩ s = stepV s (some 18) (val (binV Tryz.prog .gtr 3 false true (s.regs.get undefV 17) (.int .i64 (100)))) (Qo Tryz.prog hs ks k19_12 2 ⟨19, r⟩) := oR (by kernel_rfl)
theorem k19_12_2 : Qo Tryz.prog hs ks k19_12 2 ⟨19, r⟩ s = some [(.normal, s)] := Qo_end (by kernel_rfl) s
noncomputable def k19_14 : Code := codeA k19_13
noncomputable def k19_15 : Code := codeB k19_13
theorem k19_13_c : Qc Tryz.prog hs ks ⟨19, r⟩ k19_13 s = condV (s.regs.get undefV 18) (Qc Tryz.prog hs ks ⟨19, r⟩ k19_14) (Qc Tryz.prog hs ks ⟨19, r⟩ k19_15) s := Qc_cond (t := 18) (a := k19_14) (b := k19_15) (by kernel_rfl) _ _
noncomputable def k19_16 : Code := codeA k19_14
noncomputable def k19_17 : Code := codeB k19_14
theorem k19_14_c : Qc Tryz.prog hs ks ⟨19, r⟩ k19_14 s = thenV (Qc Tryz.prog hs ks ⟨19, r⟩ k19_16 s) (Qc Tryz.prog hs ks ⟨19, r⟩ k19_17) := Qc_seq (a := k19_16) (b := k19_17) (by kernel_rfl) _ _
theorem k19_16_c : Qc Tryz.prog hs ks ⟨19, r⟩ k19_16 s = Qo Tryz.prog hs ks k19_16 0 ⟨19, r⟩ s := Qc_region (id := 4) (ops := regOps k19_16) (by kernel_rfl) (by kernel_rfl) s
theorem k19_16_0 : Qo Tryz.prog hs ks k19_16 0 ⟨19, r⟩ s = stepV s (some 19) (val (build Tryz.prog 37 [])) (Qo Tryz.prog hs ks k19_16 1 ⟨19, r⟩) := oR (by kernel_rfl)
theorem k19_16_1 : Qo Tryz.prog hs ks k19_16 1 ⟨19, r⟩ s = stepV s none (xStore Tryz.prog 37 s.h.get (s.regs.get undefV 4) (s.regs.get undefV 19)) (Qo Tryz.prog hs ks k19_16 2 ⟨19, r⟩) := oR (by kernel_rfl)
theorem k19_16_2 : Qo Tryz.prog hs ks k19_16 2 ⟨19, r⟩ s = stepV s (some 5) (some { v := (.int .i64 (15)) }) (Qo Tryz.prog hs ks k19_16 3 ⟨19, r⟩) := oR (by kernel_rfl)
theorem k19_16_3 : Qo Tryz.prog hs ks k19_16 3 ⟨19, r⟩ s = some [(.normal, s)] := Qo_end (by kernel_rfl) s
theorem k19_17_c : Qc Tryz.prog hs ks ⟨19, r⟩ k19_17 s = some [(.ret, s)] := Qc_ret (by kernel_rfl) _ _
theorem k19_15_c : Qc Tryz.prog hs ks ⟨19, r⟩ k19_15 s = some [(.normal, s)] := Qc_skip (by kernel_rfl) _ _
noncomputable def k19_18 : Code := codeA k19_11
noncomputable def k19_19 : Code := codeB k19_11
theorem k19_11_c : Qc Tryz.prog hs ks ⟨19, r⟩ k19_11 s = thenV (Qc Tryz.prog hs ks ⟨19, r⟩ k19_18 s) (Qc Tryz.prog hs ks ⟨19, r⟩ k19_19) := Qc_seq (a := k19_18) (b := k19_19) (by kernel_rfl) _ _
theorem k19_18_c : Qc Tryz.prog hs ks ⟨19, r⟩ k19_18 s = Qo Tryz.prog hs ks k19_18 0 ⟨19, r⟩ s := Qc_region (id := 5) (ops := regOps k19_18) (by kernel_rfl) (by kernel_rfl) s
theorem k19_18_0 : Qo Tryz.prog hs ks k19_18 0 ⟨19, r⟩ s = stepV s (some 20) (some { v := (s.regs.get undefV 0) }) (Qo Tryz.prog hs ks k19_18 1 ⟨19, r⟩) := oR (by kernel_rfl)
theorem k19_18_1 : Qo Tryz.prog hs ks k19_18 1 ⟨19, r⟩ s = stepV s (some 21) (some { v := (s.regs.get undefV 1) }) (Qo Tryz.prog hs ks k19_18 2 ⟨19, r⟩) := oR (by kernel_rfl)
theorem k19_18_2 : Qo Tryz.prog hs ks k19_18 2 ⟨19, r⟩ s = stepV s (some 22) (val (build Tryz.prog 74 [(0, (s.regs.get undefV 20)), (1, (s.regs.get undefV 21))])) (Qo Tryz.prog hs ks k19_18 3 ⟨19, r⟩) := oR (by kernel_rfl)
theorem k19_18_3 : Qo Tryz.prog hs ks k19_18 3 ⟨19, r⟩ s = stepV s (some 23) (litS Tryz.prog false 35 1 [(0, (s.regs.get undefV 22))] s.h.n) (Qo Tryz.prog hs ks k19_18 4 ⟨19, r⟩) := oR (by kernel_rfl)
theorem k19_18_4 : Qo Tryz.prog hs ks k19_18 4 ⟨19, r⟩ s = stepV s (some 24) (val (build Tryz.prog 37 [(1, (s.regs.get undefV 23))])) (Qo Tryz.prog hs ks k19_18 5 ⟨19, r⟩) := oR (by kernel_rfl)
theorem k19_18_5 : Qo Tryz.prog hs ks k19_18 5 ⟨19, r⟩ s = stepV s none (xStore Tryz.prog 37 s.h.get (s.regs.get undefV 4) (s.regs.get undefV 24)) (Qo Tryz.prog hs ks k19_18 6 ⟨19, r⟩) := oR (by kernel_rfl)
theorem k19_18_6 : Qo Tryz.prog hs ks k19_18 6 ⟨19, r⟩ s = stepV s (some 5) (some { v := (.int .i64 (0)) }) (Qo Tryz.prog hs ks k19_18 7 ⟨19, r⟩) := oR (by kernel_rfl)
theorem k19_18_7 : Qo Tryz.prog hs ks k19_18 7 ⟨19, r⟩ s = some [(.normal, s)] := Qo_end (by kernel_rfl) s
theorem k19_19_c : Qc Tryz.prog hs ks ⟨19, r⟩ k19_19 s = some [(.ret, s)] := Qc_ret (by kernel_rfl) _ _
/-! function 20 -/
noncomputable def k20 : Code := Tryz.f20.body.getD .skip
theorem k20_fun (args : List V) (ha : args.length ≤ 18) (h : H) : (EV Tryz.prog hs ks).call 20 args h = endsV Tryz.prog hs ks Tryz.f20 (Qc Tryz.prog hs ks ⟨20, none⟩ k20 (S 18 (setF args 0 fun _ => undefV) [] h)) := EV_fun Tryz.func20 (by kernel_rfl) (by kernel_rfl) (by decide) ha h
theorem k20_ret (f : Nat → V) (h : H) : endsV Tryz.prog hs ks Tryz.f20 (some [(.ret, S 18 f [] h)]) = resV (resultVs Tryz.prog (S 18 f [] h) [.cell 4 37, .tmp 5]) h := ends_one (by kernel_rfl) (Or.inl rfl) _ _
theorem k20_nrm (f : Nat → V) (h : H) : endsV Tryz.prog hs ks Tryz.f20 (some [(.normal, S 18 f [] h)]) = resV (resultVs Tryz.prog (S 18 f [] h) [.cell 4 37, .tmp 5]) h := ends_one (by kernel_rfl) (Or.inr rfl) _ _
noncomputable def k20_0 : Code := codeA k20
noncomputable def k20_1 : Code := codeB k20
theorem k20_c : Qc Tryz.prog hs ks ⟨20, r⟩ k20 s = thenV (Qc Tryz.prog hs ks ⟨20, r⟩ k20_0 s) (Qc Tryz.prog hs ks ⟨20, r⟩ k20_1) := Qc_seq (a := k20_0) (b := k20_1) (by kernel_rfl) _ _
theorem k20_0_c : Qc Tryz.prog hs ks ⟨20, r⟩ k20_0 s = Qo Tryz.prog hs ks k20_0 0 ⟨20, r⟩ s := Qc_region (id := 0) (ops := regOps k20_0) (by kernel_rfl) (by kernel_rfl) s
theorem k20_0_0 : Qo Tryz.prog hs ks k20_0 0 ⟨20, r⟩ s = stepV s (some 2) (some { v := .ptr s.h.n 0, nw := [.row 0 (V.cells (s.regs.get undefV 0))] }) (Qo Tryz.prog hs ks k20_0 1 ⟨20, r⟩) := oR (by kernel_rfl)
theorem k20_0_1 : Qo Tryz.prog hs ks k20_0 1 ⟨20, r⟩ s = stepV s (some 3) (some { v := .ptr s.h.n 0, nw := [.row 0 (V.cells (s.regs.get undefV 1))] }) (Qo Tryz.prog hs ks k20_0 2 ⟨20, r⟩) := oR (by kernel_rfl)
theorem k20_0_2 : Qo Tryz.prog hs ks k20_0 2 ⟨20, r⟩ s = stepV s (some 4) (some { v := .ptr s.h.n 0, nw := [.row 0 [.int .i64 (0), .nils]] }) (Qo Tryz.prog hs ks k20_0 3 ⟨20, r⟩) := oR (by kernel_rfl)
theorem k20_0_3 : Qo Tryz.prog hs ks k20_0 3 ⟨20, r⟩ s = stepV s (some 5) (some { v := (.int .i64 (0)) }) (Qo Tryz.prog hs ks k20_0 4 ⟨20, r⟩) := oR (by kernel_rfl)
theorem k20_0_4 : Qo Tryz.prog hs ks k20_0 4 ⟨20, r⟩ s = some [(.normal, s)] := Qo_end (by kernel_rfl) s
noncomputable def k20_2 : Code := codeA k20_1
noncomputable def k20_3 : Code := codeB k20_1
theorem k20_1_c : Qc Tryz.prog hs ks ⟨20, r⟩ k20_1 s = thenV (Qc Tryz.prog hs ks ⟨20, r⟩ k20_2 s) (Qc Tryz.prog hs ks ⟨20, r⟩ k20_3) := Qc_seq (a := k20_2) (b := k20_3) (by kernel_rfl) _ _
noncomputable def k20_4 : Code := codeA k20_2
noncomputable def k20_5 : Code := codeB k20_2
theorem k20_2_c : Qc Tryz.prog hs ks ⟨20, r⟩ k20_2 s = thenV (Qc Tryz.prog hs ks ⟨20, r⟩ k20_4 s) (Qc Tryz.prog hs ks ⟨20, r⟩ k20_5) := Qc_seq (a := k20_4) (b := k20_5) (by kernel_rfl) _ _
theorem k20_4_c : Qc Tryz.prog hs ks ⟨20, r⟩ k20_4 s = Qo Tryz.prog hs ks k20_4 0 ⟨20, r⟩ s := Qc_region (id := 1) (ops := regOps k20_4) (by kernel_rfl) (by kernel_rfl) s
theorem k20_4_0 : Qo Tryz.prog hs ks k20_4 0 ⟨20, r⟩ s = stepV s (some 6) (xLoad Tryz.prog 37 s.h.get (s.regs.get undefV 2)) (Qo Tryz.prog hs ks k20_4 1 ⟨20, r⟩) := oR (by kernel_rfl)
theorem k20_4_1 : Qo Tryz.prog hs ks k20_4 1 ⟨20, r⟩ s = thenC (some 7) s (callS Tryz.prog hs ks 44 [(s.regs.get undefV 6)] s.h) (Qo Tryz.prog hs ks k20_4 2 ⟨20, r⟩) := cR (by kernel_rfl)
theorem k20_4_2 : Qo Tryz.prog hs ks k20_4 2 ⟨20, r⟩ s = stepV s (some 8) (xUn .not (s.regs.get undefV 7)) (Qo Tryz.prog hs ks k20_4 3 ⟨20, r⟩) := oR (by kernel_rfl)
theorem k20_4_3 : Qo Tryz.prog hs ks k20_4 3 ⟨20, r⟩ s = stepV s (some 9) (some { v := (s.regs.get undefV 8) }) (Qo Tryz.prog hs ks k20_4 4 ⟨20, r⟩) := oR (by kernel_rfl)
theorem k20_4_4 : Qo Tryz.prog hs ks k20_4 4 ⟨20, r⟩ s = if wantB (s.regs.get undefV 9) false = true then stepV s (some 10) (xLoad Tryz.prog 37 s.h.get (s.regs.get undefV 3)) (Qo Tryz.prog hs ks k20_4 5 ⟨20, r⟩) else Qo Tryz.prog hs ks k20_4 5 ⟨20, r⟩ (skipS s (some 10)) := oI (by kernel_rfl)
theorem k20_4_5 : Qo Tryz.prog hs ks k20_4 5 ⟨20, r⟩ s = if wantB (s.regs.get undefV 9) false = true then thenC (some 11) s (callS Tryz.prog hs ks 44 [(s.regs.get undefV 10)] s.h) (Qo Tryz.prog hs ks k20_4 6 ⟨20, r⟩) else Qo Tryz.prog hs ks k20_4 6 ⟨20, r⟩ (skipS s (some 11)) := cI (by kernel_rfl)
theorem k20_4_6 : Qo Tryz.prog hs ks k20_4 6 ⟨20, r⟩ s = if wantB (s.regs.get undefV 9) false = true then stepV s (some 12) (xUn .not (s.regs.get undefV 11)) (Qo Tryz.prog hs ks k20_4 7 ⟨20, r⟩) else Qo Tryz.prog hs ks k20_4 7 ⟨20, r⟩ (skipS s (some 12)) := oI (by kernel_rfl)
theorem k20_4_7 : Qo Tryz.prog hs ks k20_4 7 ⟨20, r⟩ s = stepV s (some 13) (xPick (s.regs.get undefV 9) (.bool true) (s.regs.get undefV 12)) (Qo Tryz.prog hs ks k20_4 8 ⟨20, r⟩) := oR (by kernel_rfl)
theorem k20_4_8 : Qo Tryz.prog hs ks k20_4 8 ⟨20, r⟩ s = some [(.normal, s)] := Qo_end (by kernel_rfl) s
noncomputable def k20_6 : Code := codeA k20_5
noncomputable def k20_7 : Code := codeB k20_5
theorem k20_5_c : Qc Tryz.prog hs ks ⟨20, r⟩ k20_5 s = condV (s.regs.get undefV 13) (Qc Tryz.prog hs ks ⟨20, r⟩ k20_6) (Qc Tryz.prog hs ks ⟨20, r⟩ k20_7) s := Qc_cond (t := 13) (a := k20_6) (b := k20_7) (by kernel_rfl) _ _
noncomputable def k20_8 : Code := codeA k20_6
noncomputable def k20_9 : Code := codeB k20_6
theorem k20_6_c : Qc Tryz.prog hs ks ⟨20, r⟩ k20_6 s = thenV (Qc Tryz.prog hs ks ⟨20, r⟩ k20_8 s) (Qc Tryz.prog hs ks ⟨20, r⟩ k20_9) := Qc_seq (a := k20_8) (b := k20_9) (by kernel_rfl) _ _
theorem k20_8_c : Qc Tryz.prog hs ks ⟨20, r⟩ k20_8 s = Qo Tryz.prog hs ks k20_8 0 ⟨20, r⟩ s := Qc_region (id := 2) (ops := regOps k20_8) (by kernel_rfl) (by kernel_rfl) s
theorem k20_8_0 : Qo Tryz.prog hs ks k20_8 0 ⟨20, r⟩ s = stepV s (some 14) (val (build Tryz.prog 37 [])) (Qo Tryz.prog hs ks k20_8 1 ⟨20, r⟩) := oR (by kernel_rfl)
theorem k20_8_1 : Qo Tryz.prog hs ks k20_8 1 ⟨20, r⟩ s = stepV s none (xStore Tryz.prog 37 s.h.get (s.regs.get undefV 4) (s.regs.get undefV 14)) (Qo Tryz.prog hs ks k20_8 2 ⟨20, r⟩) := oR (by kernel_rfl)
theorem k20_8_2 : Qo Tryz.prog hs ks k20_8 2 ⟨20, r⟩ s = stepV s (some 5) (some { v := (.int .i64 (3)) }) (Qo Tryz.prog hs ks k20_8 3 ⟨20, r⟩) := oR (by kernel_rfl)
theorem k20_8_3 : Qo Tryz.prog hs ks k20_8 3 ⟨20, r⟩ s = some [(.normal, s)] := Qo_end (by kernel_rfl) s
theorem k20_9_c : Qc Tryz.prog hs ks ⟨20, r⟩ k20_9 s = some [(.ret, s)] := Qc_ret (by kernel_rfl) _ _
theorem k20_7_c : Qc Tryz.prog hs ks ⟨20, r⟩ k20_7 s = some [(.normal, s)] := Qc_skip (by kernel_rfl) _ _
noncomputable def k20_10 : Code := codeA k20_3
noncomputable def k20_11 : Code := codeB k20_3
theorem k20_3_c : Qc Tryz.prog hs ks ⟨20, r⟩ k20_3 s = thenV (Qc Tryz.prog hs ks ⟨20, r⟩ k20_10 s) (Qc Tryz.prog hs ks ⟨20, r⟩ k20_11) := Qc_seq (a := k20_10) (b := k20_11) (by kernel_rfl) _ _
theorem k20_10_c : Qc Tryz.prog hs ks ⟨20, r⟩ k20_10 s = Qo Tryz.prog hs ks k20_10 0 ⟨20, r⟩ s := Qc_region (id := 3) (ops := regOps k20_10) (by kernel_rfl) (by kernel_rfl) s
theorem k20_10_0 : Qo Tryz.prog hs ks k20_10 0 ⟨20, r⟩ s = stepV s (some 15) (xLoad Tryz.prog 37 s.h.get (s.regs.get undefV 2)) (Qo Tryz.prog hs ks k20_10 1 ⟨20, r⟩) := oR (by kernel_rfl)
theorem k20_10_1 : Qo Tryz.prog hs ks k20_10 1 ⟨20, r⟩ s = stepV s (some 16) (xLoad Tryz.prog 37 s.h.get (s.regs.get undefV 3)) (Qo Tryz.prog hs ks k20_10 2 ⟨20, r⟩) := oR (by kernel_rfl)
theorem k20_10_2 : Qo Tryz.prog hs ks k20_10 2 ⟨20, r⟩ s = thenC (some 17) s (callS Tryz.prog hs ks 45 [(s.regs.get undefV 15), (s.regs.get undefV 16)] s.h) (Qo Tryz.prog hs ks k20_10 3 ⟨20, r⟩) := cR (by kernel_rfl)
theorem k20_10_3 : Qo Tryz.prog hs ks k20_10 3 ⟨20, r⟩ s = stepV s none (xStore Tryz.prog 37 s.h.get (s.regs.get undefV 4) (s.regs.get undefV 17)) (Qo Tryz.prog hs ks k20_10 4 ⟨20, r⟩) := oR (by kernel_rfl)
theorem k20_10_4 : Qo Tryz.prog hs ks k20_10 4 ⟨20, r⟩ s = stepV s (some 5) (some { v := (.int .i64 (0)) }) (Qo Tryz.prog hs ks k20_10 5 ⟨20, r⟩) := oR (by kernel_rfl)
theorem k20_10_5 : Qo Tryz.prog hs ks k20_10 5 ⟨20, r⟩ s = some [(.normal, s)] := Qo_end (by kernel_rfl) s
theorem k20_11_c : Qc Tryz.prog hs ks ⟨20, r⟩ k20_11 s = some [(.ret, s)] := Qc_ret (by kernel_rfl) _ _
end Go.Proofs.YtelobjfgghlkfaaGreat.El
