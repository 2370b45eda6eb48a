/- The hints and the known calls of ElabLevels' symbolic part. -/
import Derived.Test.YtelobjfgghlkfaaGreatA8
import Derived.Test.YtelobjfgghlkfaaGreatC5
import Derived.KernelRfl
set_option linter.all false
noncomputable section
namespace Go.Proofs.YtelobjfgghlkfaaGreat.El
open Go Go.Ae
def hs : Hint where
  heap f := Nat.beq f 41
  rows _ _ := false
  fix _ _ := []
def ks : Known where
  call f args := if f = 5 ∧ args = [] then some (.bool true) else none
  idle _ := false
end Go.Proofs.YtelobjfgghlkfaaGreat.El

namespace Go.Proofs.YtelobjfgghlkfaaGreat.El
open Go Go.Ae
variable (r : Option Nat) (dn : List (Nat × Foot)) (s : St)
/-! function 4 -/
noncomputable def k4 : Code := Tryz.f4.body.getD .skip
theorem k4_fun (args : List V) (ha : args.length ≤ 23) (h : H) : (EV Tryz.prog hs ks).call 4 args h = endsV Tryz.prog hs ks Tryz.f4 (Qc Tryz.prog hs ks ⟨4, none⟩ k4 (S 23 (setF args 0 fun _ => undefV) [] h)) := EV_fun Tryz.func4 (by kernel_rfl) (by kernel_rfl) (by decide) ha h
theorem k4_ret (f : Nat → V) (h : H) : endsV Tryz.prog hs ks Tryz.f4 (some [(.ret, S 23 f [] h)]) = resV (resultVs Tryz.prog (S 23 f [] h) [.tmp 2]) h := ends_one (by kernel_rfl) (Or.inl rfl) _ _
theorem k4_nrm (f : Nat → V) (h : H) : endsV Tryz.prog hs ks Tryz.f4 (some [(.normal, S 23 f [] h)]) = resV (resultVs Tryz.prog (S 23 f [] h) [.tmp 2]) h := ends_one (by kernel_rfl) (Or.inr rfl) _ _
noncomputable def k4_0 : Code := codeA k4
noncomputable def k4_1 : Code := codeB k4
theorem k4_c : Qc Tryz.prog hs ks ⟨4, r⟩ k4 s = thenV (Qc Tryz.prog hs ks ⟨4, r⟩ k4_0 s) (Qc Tryz.prog hs ks ⟨4, r⟩ k4_1) := Qc_seq (a := k4_0) (b := k4_1) (by kernel_rfl) _ _
theorem k4_0_c : Qc Tryz.prog hs ks ⟨4, r⟩ k4_0 s = Qo Tryz.prog hs ks k4_0 0 ⟨4, r⟩ s := Qc_region (id := 0) (ops := regOps k4_0) (by kernel_rfl) (by kernel_rfl) s
theorem k4_0_0 : Qo Tryz.prog hs ks k4_0 0 ⟨4, r⟩ s = stepV s (some 2) (some { v := (.bool false) }) (Qo Tryz.prog hs ks k4_0 1 ⟨4, r⟩) := oR (by kernel_rfl)
theorem k4_0_1 : Qo Tryz.prog hs ks k4_0 1 ⟨4, r⟩ s = some [(.normal, s)] := Qo_end (by kernel_rfl) s
noncomputable def k4_2 : Code := codeA k4_1
noncomputable def k4_3 : Code := codeB k4_1
theorem k4_1_c : Qc Tryz.prog hs ks ⟨4, r⟩ k4_1 s = thenV (Qc Tryz.prog hs ks ⟨4, r⟩ k4_2 s) (Qc Tryz.prog hs ks ⟨4, r⟩ k4_3) := Qc_seq (a := k4_2) (b := k4_3) (by kernel_rfl) _ _
noncomputable def k4_4 : Code := codeA k4_2
noncomputable def k4_5 : Code := codeB k4_2
theorem k4_2_c : Qc Tryz.prog hs ks ⟨4, r⟩ k4_2 s = thenV (Qc Tryz.prog hs ks ⟨4, r⟩ k4_4 s) (Qc Tryz.prog hs ks ⟨4, r⟩ k4_5) := Qc_seq (a := k4_4) (b := k4_5) (by kernel_rfl) _ _
theorem k4_4_c : Qc Tryz.prog hs ks ⟨4, r⟩ k4_4 s = Qo Tryz.prog hs ks k4_4 0 ⟨4, r⟩ s := Qc_region (id := 1) (ops := regOps k4_4) (by kernel_rfl) (by kernel_rfl) s
theorem k4_4_0 : Qo Tryz.prog hs ks k4_4 0 ⟨4, r⟩ s = stepV s (some 3) (some { v := (.int .i64 (0)) }) (Qo Tryz.prog hs ks k4_4 1 ⟨4, r⟩) := oR (by kernel_rfl)
theorem k4_4_1 : Qo Tryz.prog hs ks k4_4 1 ⟨4, r⟩ s = some [(.normal, s)] := Qo_end (by kernel_rfl) s
noncomputable def k4_6 : Code := codeA k4_5
theorem k4_5_c : Qc Tryz.prog hs ks ⟨4, r⟩ k4_5 s = blockV 0 (Qc Tryz.prog hs ks ⟨4, r⟩ k4_6 s) := Qc_block (b := k4_6) (by kernel_rfl) _ _
noncomputable def k4_7 : Code := codeA k4_6
theorem k4_6_l : Qc Tryz.prog hs ks ⟨4, r⟩ k4_6 s = thenV (Qc Tryz.prog hs ks ⟨4, r⟩ k4_7 s) (Qc Tryz.prog hs ks ⟨4, r⟩ k4_6) := Qc_loop (b := k4_7) (by kernel_rfl) _ _
noncomputable def k4_8 : Code := codeA k4_7
noncomputable def k4_9 : Code := codeB k4_7
theorem k4_7_c : Qc Tryz.prog hs ks ⟨4, r⟩ k4_7 s = thenV (Qc Tryz.prog hs ks ⟨4, r⟩ k4_8 s) (Qc Tryz.prog hs ks ⟨4, r⟩ k4_9) := Qc_seq (a := k4_8) (b := k4_9) (by kernel_rfl) _ _
noncomputable def k4_10 : Code := codeA k4_8
noncomputable def k4_11 : Code := codeB k4_8
theorem k4_8_c : Qc Tryz.prog hs ks ⟨4, r⟩ k4_8 s = thenV (Qc Tryz.prog hs ks ⟨4, r⟩ k4_10 s) (Qc Tryz.prog hs ks ⟨4, r⟩ k4_11) := Qc_seq (a := k4_10) (b := k4_11) (by kernel_rfl) _ _
theorem k4_10_c : Qc Tryz.prog hs ks ⟨4, r⟩ k4_10 s = Qo Tryz.prog hs ks k4_10 0 ⟨4, r⟩ s := Qc_region (id := 2) (ops := regOps k4_10) (by kernel_rfl) (by kernel_rfl) s
theorem k4_10_0 : Qo Tryz.prog hs ks k4_10 0 ⟨4, r⟩ s = stepV s (some 4) (some { v := (s.regs.get undefV 3) }) (Qo Tryz.prog hs ks k4_10 1 ⟨4, r⟩) := oR (by kernel_rfl)
theorem k4_10_1 : Qo Tryz.prog hs ks k4_10 1 ⟨4, r⟩ s = stepV s (some 5) (some { v := (s.regs.get undefV 0) }) (Qo Tryz.prog hs ks k4_10 2 ⟨4, r⟩) := oR (by kernel_rfl)
theorem k4_10_2 : Qo Tryz.prog hs ks k4_10 2 ⟨4, r⟩ s = stepV s (some 6) (builtinV Tryz.prog false s.h.get s.h.n .len [22] [(s.regs.get undefV 5)]) (Qo Tryz.prog hs ks k4_10 3 ⟨4, r⟩) := oR (by kernel_rfl)
theorem k4_10_3 : Qo Tryz.prog hs ks k4_10 3 ⟨4, r⟩ s = stepV s (some 7) (val (binV Tryz.prog .lss 3 false false (s.regs.get undefV 4) (s.regs.get undefV 6))) (Qo Tryz.prog hs ks k4_10 4 ⟨4, r⟩) := oR (by kernel_rfl)
theorem k4_10_4 : Qo Tryz.prog hs ks k4_10 4 ⟨4, r⟩ s = stepV s (some 8) (some { v := (s.regs.get undefV 7) }) (Qo Tryz.prog hs ks k4_10 5 ⟨4, r⟩) := oR (by kernel_rfl)
theorem k4_10_5 : Qo Tryz.prog hs ks k4_10 5 ⟨4, r⟩ s = if wantB (s.regs.get undefV 8) true = true then stepV s (some 9) (some { v := (s.regs.get undefV 3) }) (Qo Tryz.prog hs ks k4_10 6 ⟨4, r⟩) else Qo Tryz.prog hs ks k4_10 6 ⟨4, r⟩ (skipS s (some 9)) := oI (by kernel_rfl)
theorem k4_10_6 : Qo Tryz.prog hs ks k4_10 6 ⟨4, r⟩ s = if wantB (s.regs.get undefV 8) true = true then stepV s (some 10) (val (binV Tryz.prog .lss 3 false true (s.regs.get undefV 9) (.int .i64 (10)))) (Qo Tryz.prog hs ks k4_10 7 ⟨4, r⟩) else Qo Tryz.prog hs ks k4_10 7 ⟨4, r⟩ (skipS s (some 10)) := oI (by kernel_rfl)
theorem k4_10_7 : Qo Tryz.prog hs ks k4_10 7 ⟨4, r⟩ s = stepV s (some 11) (xPick (s.regs.get undefV 8) (s.regs.get undefV 10) (.bool false)) (Qo Tryz.prog hs ks k4_10 8 ⟨4, r⟩) := oR (by kernel_rfl)
theorem k4_10_8 : Qo Tryz.prog hs ks k4_10 8 ⟨4, r⟩ s = some [(.normal, s)] := Qo_end (by kernel_rfl) s
noncomputable def k4_12 : Code := codeA k4_11
noncomputable def k4_13 : Code := codeB k4_11
theorem k4_11_c : Qc Tryz.prog hs ks ⟨4, r⟩ k4_11 s = condV (s.regs.get undefV 11) (Qc Tryz.prog hs ks ⟨4, r⟩ k4_12) (Qc Tryz.prog hs ks ⟨4, r⟩ k4_13) s := Qc_cond (t := 11) (a := k4_12) (b := k4_13) (by kernel_rfl) _ _
theorem k4_12_c : Qc Tryz.prog hs ks ⟨4, r⟩ k4_12 s = some [(.normal, s)] := Qc_skip (by kernel_rfl) _ _
theorem k4_13_c : Qc Tryz.prog hs ks ⟨4, r⟩ k4_13 s = some [(.exit 0, s)] := Qc_exit (by kernel_rfl) _ _
noncomputable def k4_14 : Code := codeA k4_9
noncomputable def k4_15 : Code := codeB k4_9
theorem k4_9_c : Qc Tryz.prog hs ks ⟨4, r⟩ k4_9 s = thenV (Qc Tryz.prog hs ks ⟨4, r⟩ k4_14 s) (Qc Tryz.prog hs ks ⟨4, r⟩ k4_15) := Qc_seq (a := k4_14) (b := k4_15) (by kernel_rfl) _ _
noncomputable def k4_16 : Code := codeA k4_14
theorem k4_14_c : Qc Tryz.prog hs ks ⟨4, r⟩ k4_14 s = blockV 1 (Qc Tryz.prog hs ks ⟨4, r⟩ k4_16 s) := Qc_block (b := k4_16) (by kernel_rfl) _ _
noncomputable def k4_17 : Code := codeA k4_16
noncomputable def k4_18 : Code := codeB k4_16
theorem k4_16_c : Qc Tryz.prog hs ks ⟨4, r⟩ k4_16 s = thenV (Qc Tryz.prog hs ks ⟨4, r⟩ k4_17 s) (Qc Tryz.prog hs ks ⟨4, r⟩ k4_18) := Qc_seq (a := k4_17) (b := k4_18) (by kernel_rfl) _ _
theorem k4_17_c : Qc Tryz.prog hs ks ⟨4, r⟩ k4_17 s = Qo Tryz.prog hs ks k4_17 0 ⟨4, r⟩ s := Qc_region (id := 4) (ops := regOps k4_17) (by kernel_rfl) (by kernel_rfl) s
theorem k4_17_0 : Qo Tryz.prog hs ks k4_17 0 ⟨4, r⟩ s = stepV s (some 14) (some { v := (s.regs.get undefV 0) }) (Qo Tryz.prog hs ks k4_17 1 ⟨4, r⟩) := oR (by kernel_rfl)
theorem k4_17_1 : Qo Tryz.prog hs ks k4_17 1 ⟨4, r⟩ s = stepV s (some 15) (some { v := (s.regs.get undefV 3) }) (Qo Tryz.prog hs ks k4_17 2 ⟨4, r⟩) := oR (by kernel_rfl)
theorem k4_17_2 : Qo Tryz.prog hs ks k4_17 2 ⟨4, r⟩ s = stepV s (some 16) (val (indexAddr Tryz.prog 22 (s.regs.get undefV 14) (s.regs.get undefV 15))) (Qo Tryz.prog hs ks k4_17 3 ⟨4, r⟩) := oR (by kernel_rfl)
theorem k4_17_3 : Qo Tryz.prog hs ks k4_17 3 ⟨4, r⟩ s = stepV s (some 17) (xLoad Tryz.prog 9 s.h.get (s.regs.get undefV 16)) (Qo Tryz.prog hs ks k4_17 4 ⟨4, r⟩) := oR (by kernel_rfl)
theorem k4_17_4 : Qo Tryz.prog hs ks k4_17 4 ⟨4, r⟩ s = stepV s (some 18) (builtinV Tryz.prog false s.h.get s.h.n .len [9] [(s.regs.get undefV 17)]) (Qo Tryz.prog hs ks k4_17 5 ⟨4, r⟩) := oR (by kernel_rfl)
theorem k4_17_5 : Qo Tryz.prog hs ks k4_17 5 ⟨4, r⟩ s = stepV s (some 19) (val (binV Tryz.prog .gtr 3 false true (s.regs.get undefV 18) (.int .i64 (60)))) (Qo Tryz.prog hs ks k4_17 6 ⟨4, r⟩) := oR (by kernel_rfl)
theorem k4_17_6 : Qo Tryz.prog hs ks k4_17 6 ⟨4, r⟩ s = some [(.normal, s)] := Qo_end (by kernel_rfl) s
noncomputable def k4_19 : Code := codeA k4_18
noncomputable def k4_20 : Code := codeB k4_18
theorem k4_18_c : Qc Tryz.prog hs ks ⟨4, r⟩ k4_18 s = condV (s.regs.get undefV 19) (Qc Tryz.prog hs ks ⟨4, r⟩ k4_19) (Qc Tryz.prog hs ks ⟨4, r⟩ k4_20) s := Qc_cond (t := 19) (a := k4_19) (b := k4_20) (by kernel_rfl) _ _
noncomputable def k4_21 : Code := codeA k4_19
noncomputable def k4_22 : Code := codeB k4_19
theorem k4_19_c : Qc Tryz.prog hs ks ⟨4, r⟩ k4_19 s = thenV (Qc Tryz.prog hs ks ⟨4, r⟩ k4_21 s) (Qc Tryz.prog hs ks ⟨4, r⟩ k4_22) := Qc_seq (a := k4_21) (b := k4_22) (by kernel_rfl) _ _
theorem k4_21_c : Qc Tryz.prog hs ks ⟨4, r⟩ k4_21 s = Qo Tryz.prog hs ks k4_21 0 ⟨4, r⟩ s := Qc_region (id := 5) (ops := regOps k4_21) (by kernel_rfl) (by kernel_rfl) s
theorem k4_21_0 : Qo Tryz.prog hs ks k4_21 0 ⟨4, r⟩ s = stepV s (some 2) (some { v := (.bool false) }) (Qo Tryz.prog hs ks k4_21 1 ⟨4, r⟩) := oR (by kernel_rfl)
theorem k4_21_1 : Qo Tryz.prog hs ks k4_21 1 ⟨4, r⟩ s = some [(.normal, s)] := Qo_end (by kernel_rfl) s
theorem k4_22_c : Qc Tryz.prog hs ks ⟨4, r⟩ k4_22 s = some [(.ret, s)] := Qc_ret (by kernel_rfl) _ _
theorem k4_20_c : Qc Tryz.prog hs ks ⟨4, r⟩ k4_20 s = some [(.normal, s)] := Qc_skip (by kernel_rfl) _ _
theorem k4_15_c : Qc Tryz.prog hs ks ⟨4, r⟩ k4_15 s = Qo Tryz.prog hs ks k4_15 0 ⟨4, r⟩ s := Qc_region (id := 3) (ops := regOps k4_15) (by kernel_rfl) (by kernel_rfl) s
theorem k4_15_0 : Qo Tryz.prog hs ks k4_15 0 ⟨4, r⟩ s = stepV s (some 12) (some { v := (s.regs.get undefV 3) }) (Qo Tryz.prog hs ks k4_15 1 ⟨4, r⟩) := oR (by kernel_rfl)
theorem k4_15_1 : Qo Tryz.prog hs ks k4_15 1 ⟨4, r⟩ s = stepV s (some 13) (val (binV Tryz.prog .add 3 false true (s.regs.get undefV 12) (.int .i64 (1)))) (Qo Tryz.prog hs ks k4_15 2 ⟨4, r⟩) := oR (by kernel_rfl)
theorem k4_15_2 : Qo Tryz.prog hs ks k4_15 2 ⟨4, r⟩ s = stepV s (some 3) (some { v := (s.regs.get undefV 13) }) (Qo Tryz.prog hs ks k4_15 3 ⟨4, r⟩) := oR (by kernel_rfl)
theorem k4_15_3 : Qo Tryz.prog hs ks k4_15 3 ⟨4, r⟩ s = some [(.normal, s)] := Qo_end (by kernel_rfl) s
noncomputable def k4_23 : Code := codeA k4_3
noncomputable def k4_24 : Code := codeB k4_3
theorem k4_3_c : Qc Tryz.prog hs ks ⟨4, r⟩ k4_3 s = thenV (Qc Tryz.prog hs ks ⟨4, r⟩ k4_23 s) (Qc Tryz.prog hs ks ⟨4, r⟩ k4_24) := Qc_seq (a := k4_23) (b := k4_24) (by kernel_rfl) _ _
theorem k4_23_c : Qc Tryz.prog hs ks ⟨4, r⟩ k4_23 s = Qo Tryz.prog hs ks k4_23 0 ⟨4, r⟩ s := Qc_region (id := 6) (ops := regOps k4_23) (by kernel_rfl) (by kernel_rfl) s
theorem k4_23_0 : Qo Tryz.prog hs ks k4_23 0 ⟨4, r⟩ s = stepV s (some 20) (some { v := (s.regs.get undefV 0) }) (Qo Tryz.prog hs ks k4_23 1 ⟨4, r⟩) := oR (by kernel_rfl)
theorem k4_23_1 : Qo Tryz.prog hs ks k4_23 1 ⟨4, r⟩ s = stepV s (some 21) (builtinV Tryz.prog false s.h.get s.h.n .len [22] [(s.regs.get undefV 20)]) (Qo Tryz.prog hs ks k4_23 2 ⟨4, r⟩) := oR (by kernel_rfl)
theorem k4_23_2 : Qo Tryz.prog hs ks k4_23 2 ⟨4, r⟩ s = stepV s (some 22) (val (binV Tryz.prog .leq 3 false true (s.regs.get undefV 21) (.int .i64 (8)))) (Qo Tryz.prog hs ks k4_23 3 ⟨4, r⟩) := oR (by kernel_rfl)
theorem k4_23_3 : Qo Tryz.prog hs ks k4_23 3 ⟨4, r⟩ s = stepV s (some 2) (some { v := (s.regs.get undefV 22) }) (Qo Tryz.prog hs ks k4_23 4 ⟨4, r⟩) := oR (by kernel_rfl)
theorem k4_23_4 : Qo Tryz.prog hs ks k4_23 4 ⟨4, r⟩ s = some [(.normal, s)] := Qo_end (by kernel_rfl) s
theorem k4_24_c : Qc Tryz.prog hs ks ⟨4, r⟩ k4_24 s = some [(.ret, s)] := Qc_ret (by kernel_rfl) _ _
/-! function 18 -/
noncomputable def k18 : Code := Tryz.f18.body.getD .skip
theorem k18_fun (args : List V) (ha : args.length ≤ 12) (h : H) : (EV Tryz.prog hs ks).call 18 args h = endsV Tryz.prog hs ks Tryz.f18 (Qc Tryz.prog hs ks ⟨18, none⟩ k18 (S 12 (setF args 0 fun _ => undefV) [] h)) := EV_fun Tryz.func18 (by kernel_rfl) (by kernel_rfl) (by decide) ha h
theorem k18_ret (f : Nat → V) (h : H) : endsV Tryz.prog hs ks Tryz.f18 (some [(.ret, S 12 f [] h)]) = resV (resultVs Tryz.prog (S 12 f [] h) [.cell 2 37, .tmp 3]) h := ends_one (by kernel_rfl) (Or.inl rfl) _ _
theorem k18_nrm (f : Nat → V) (h : H) : endsV Tryz.prog hs ks Tryz.f18 (some [(.normal, S 12 f [] h)]) = resV (resultVs Tryz.prog (S 12 f [] h) [.cell 2 37, .tmp 3]) h := ends_one (by kernel_rfl) (Or.inr rfl) _ _
noncomputable def k18_0 : Code := codeA k18
noncomputable def k18_1 : Code := codeB k18
theorem k18_c : Qc Tryz.prog hs ks ⟨18, r⟩ k18 s = thenV (Qc Tryz.prog hs ks ⟨18, r⟩ k18_0 s) (Qc Tryz.prog hs ks ⟨18, r⟩ k18_1) := Qc_seq (a := k18_0) (b := k18_1) (by kernel_rfl) _ _
theorem k18_0_c : Qc Tryz.prog hs ks ⟨18, r⟩ k18_0 s = Qo Tryz.prog hs ks k18_0 0 ⟨18, r⟩ s := Qc_region (id := 0) (ops := regOps k18_0) (by kernel_rfl) (by kernel_rfl) s
theorem k18_0_0 : Qo Tryz.prog hs ks k18_0 0 ⟨18, r⟩ s = stepV s (some 2) (some { v := .ptr s.h.n 0, nw := [.row 0 [.int .i64 (0), .nils]] }) (Qo Tryz.prog hs ks k18_0 1 ⟨18, r⟩) := oR (by kernel_rfl)
theorem k18_0_1 : Qo Tryz.prog hs ks k18_0 1 ⟨18, r⟩ s = stepV s (some 3) (some { v := (.int .i64 (0)) }) (Qo Tryz.prog hs ks k18_0 2 ⟨18, r⟩) := oR (by kernel_rfl)
theorem k18_0_2 : Qo Tryz.prog hs ks k18_0 2 ⟨18, r⟩ s = some [(.normal, s)] := Qo_end (by kernel_rfl) s
noncomputable def k18_2 : Code := codeA k18_1
noncomputable def k18_3 : Code := codeB k18_1
theorem k18_1_c : Qc Tryz.prog hs ks ⟨18, r⟩ k18_1 s = thenV (Qc Tryz.prog hs ks ⟨18, r⟩ k18_2 s) (Qc Tryz.prog hs ks ⟨18, r⟩ k18_3) := Qc_seq (a := k18_2) (b := k18_3) (by kernel_rfl) _ _
noncomputable def k18_4 : Code := codeA k18_2
noncomputable def k18_5 : Code := codeB k18_2
theorem k18_2_c : Qc Tryz.prog hs ks ⟨18, r⟩ k18_2 s = thenV (Qc Tryz.prog hs ks ⟨18, r⟩ k18_4 s) (Qc Tryz.prog hs ks ⟨18, r⟩ k18_5) := Qc_seq (a := k18_4) (b := k18_5) (by kernel_rfl) _ _
theorem k18_4_c : Qc Tryz.prog hs ks ⟨18, r⟩ k18_4 s = Qo Tryz.prog hs ks k18_4 0 ⟨18, r⟩ s := Qc_region (id := 1) (ops := regOps k18_4) (by kernel_rfl) (by kernel_rfl) s
theorem k18_4_0 : Qo Tryz.prog hs ks k18_4 0 ⟨18, r⟩ s = stepV s (some 4) (some { v := (s.regs.get undefV 0) }) (Qo Tryz.prog hs ks k18_4 1 ⟨18, r⟩) := oR (by kernel_rfl)
theorem k18_4_1 : Qo Tryz.prog hs ks k18_4 1 ⟨18, r⟩ s = stepV s (some 5) (val (binV Tryz.prog .lss 3 false true (s.regs.get undefV 4) (.int .i64 (0)))) (Qo Tryz.prog hs ks k18_4 2 ⟨18, r⟩) := oR (by kernel_rfl)
theorem k18_4_2 : Qo Tryz.prog hs ks k18_4 2 ⟨18, r⟩ s = some [(.normal, s)] := Qo_end (by kernel_rfl) s
noncomputable def k18_6 : Code := codeA k18_5
noncomputable def k18_7 : Code := codeB k18_5
theorem k18_5_c : Qc Tryz.prog hs ks ⟨18, r⟩ k18_5 s = condV (s.regs.get undefV 5) (Qc Tryz.prog hs ks ⟨18, r⟩ k18_6) (Qc Tryz.prog hs ks ⟨18, r⟩ k18_7) s := Qc_cond (t := 5) (a := k18_6) (b := k18_7) (by kernel_rfl) _ _
noncomputable def k18_8 : Code := codeA k18_6
noncomputable def k18_9 : Code := codeB k18_6
theorem k18_6_c : Qc Tryz.prog hs ks ⟨18, r⟩ k18_6 s = thenV (Qc Tryz.prog hs ks ⟨18, r⟩ k18_8 s) (Qc Tryz.prog hs ks ⟨18, r⟩ k18_9) := Qc_seq (a := k18_8) (b := k18_9) (by kernel_rfl) _ _
theorem k18_8_c : Qc Tryz.prog hs ks ⟨18, r⟩ k18_8 s = Qo Tryz.prog hs ks k18_8 0 ⟨18, r⟩ s := Qc_region (id := 2) (ops := regOps k18_8) (by kernel_rfl) (by kernel_rfl) s
theorem k18_8_0 : Qo Tryz.prog hs ks k18_8 0 ⟨18, r⟩ s = stepV s (some 6) (val (build Tryz.prog 37 [])) (Qo Tryz.prog hs ks k18_8 1 ⟨18, r⟩) := oR (by kernel_rfl)
theorem k18_8_1 : Qo Tryz.prog hs ks k18_8 1 ⟨18, r⟩ s = stepV s none (xStore Tryz.prog 37 s.h.get (s.regs.get undefV 2) (s.regs.get undefV 6)) (Qo Tryz.prog hs ks k18_8 2 ⟨18, r⟩) := oR (by kernel_rfl)
theorem k18_8_2 : Qo Tryz.prog hs ks k18_8 2 ⟨18, r⟩ s = stepV s (some 3) (some { v := (.int .i64 (2)) }) (Qo Tryz.prog hs ks k18_8 3 ⟨18, r⟩) := oR (by kernel_rfl)
theorem k18_8_3 : Qo Tryz.prog hs ks k18_8 3 ⟨18, r⟩ s = some [(.normal, s)] := Qo_end (by kernel_rfl) s
theorem k18_9_c : Qc Tryz.prog hs ks ⟨18, r⟩ k18_9 s = some [(.ret, s)] := Qc_ret (by kernel_rfl) _ _
theorem k18_7_c : Qc Tryz.prog hs ks ⟨18, r⟩ k18_7 s = some [(.normal, s)] := Qc_skip (by kernel_rfl) _ _
noncomputable def k18_10 : Code := codeA k18_3
noncomputable def k18_11 : Code := codeB k18_3
theorem k18_3_c : Qc Tryz.prog hs ks ⟨18, r⟩ k18_3 s = thenV (Qc Tryz.prog hs ks ⟨18, r⟩ k18_10 s) (Qc Tryz.prog hs ks ⟨18, r⟩ k18_11) := Qc_seq (a := k18_10) (b := k18_11) (by kernel_rfl) _ _
noncomputable def k18_12 : Code := codeA k18_10
noncomputable def k18_13 : Code := codeB k18_10
theorem k18_10_c : Qc Tryz.prog hs ks ⟨18, r⟩ k18_10 s = thenV (Qc Tryz.prog hs ks ⟨18, r⟩ k18_12 s) (Qc Tryz.prog hs ks ⟨18, r⟩ k18_13) := Qc_seq (a := k18_12) (b := k18_13) (by kernel_rfl) _ _
theorem k18_12_c : Qc Tryz.prog hs ks ⟨18, r⟩ k18_12 s = Qo Tryz.prog hs ks k18_12 0 ⟨18, r⟩ s := Qc_region (id := 3) (ops := regOps k18_12) (by kernel_rfl) (by kernel_rfl) s
theorem k18_12_0 : Qo Tryz.prog hs ks k18_12 0 ⟨18, r⟩ s = stepV s (some 7) (some { v := (s.regs.get undefV 0) }) (Qo Tryz.prog hs ks k18_12 1 ⟨18, r⟩) := oR (by kernel_rfl)
theorem k18_12_1 : Qo Tryz.prog hs ks k18_12 1 ⟨18, r⟩ s = stepV s (some 8) (val (binV Tryz.prog .gtr 3 false true (s.regs.get undefV 7) (.int .i64 (100)))) (Qo Tryz.prog hs ks k18_12 2 ⟨18, r⟩) := oR (by kernel_rfl)
theorem k18_12_2 : Qo Tryz.prog hs ks k18_12 2 ⟨18, r⟩ s = some [(.normal, s)] := Qo_end (by kernel_rfl) s
noncomputable def k18_14 : Code := codeA k18_13
noncomputable def k18_15 : Code := codeB k18_13
theorem k18_13_c : Qc Tryz.prog hs ks ⟨18, r⟩ k18_13 s = condV (s.regs.get undefV 8) (Qc Tryz.prog hs ks ⟨18, r⟩ k18_14) (Qc Tryz.prog hs ks ⟨18, r⟩ k18_15) s := Qc_cond (t := 8) (a := k18_14) (b := k18_15) (by kernel_rfl) _ _
noncomputable def k18_16 : Code := codeA k18_14
noncomputable def k18_17 : Code := codeB k18_14
theorem k18_14_c : Qc Tryz.prog hs ks ⟨18, r⟩ k18_14 s = thenV (Qc Tryz.prog hs ks ⟨18, r⟩ k18_16 s) (Qc Tryz.prog hs ks ⟨18, r⟩ k18_17) := Qc_seq (a := k18_16) (b := k18_17) (by kernel_rfl) _ _
theorem k18_16_c : Qc Tryz.prog hs ks ⟨18, r⟩ k18_16 s = Qo Tryz.prog hs ks k18_16 0 ⟨18, r⟩ s := Qc_region (id := 4) (ops := regOps k18_16) (by kernel_rfl) (by kernel_rfl) s
theorem k18_16_0 : Qo Tryz.prog hs ks k18_16 0 ⟨18, r⟩ s = stepV s (some 9) (val (build Tryz.prog 37 [])) (Qo Tryz.prog hs ks k18_16 1 ⟨18, r⟩) := oR (by kernel_rfl)
theorem k18_16_1 : Qo Tryz.prog hs ks k18_16 1 ⟨18, r⟩ s = stepV s none (xStore Tryz.prog 37 s.h.get (s.regs.get undefV 2) (s.regs.get undefV 9)) (Qo Tryz.prog hs ks k18_16 2 ⟨18, r⟩) := oR (by kernel_rfl)
theorem k18_16_2 : Qo Tryz.prog hs ks k18_16 2 ⟨18, r⟩ s = stepV s (some 3) (some { v := (.int .i64 (15)) }) (Qo Tryz.prog hs ks k18_16 3 ⟨18, r⟩) := oR (by kernel_rfl)
theorem k18_16_3 : Qo Tryz.prog hs ks k18_16 3 ⟨18, r⟩ s = some [(.normal, s)] := Qo_end (by kernel_rfl) s
theorem k18_17_c : Qc Tryz.prog hs ks ⟨18, r⟩ k18_17 s = some [(.ret, s)] := Qc_ret (by kernel_rfl) _ _
theorem k18_15_c : Qc Tryz.prog hs ks ⟨18, r⟩ k18_15 s = some [(.normal, s)] := Qc_skip (by kernel_rfl) _ _
noncomputable def k18_18 : Code := codeA k18_11
noncomputable def k18_19 : Code := codeB k18_11
theorem k18_11_c : Qc Tryz.prog hs ks ⟨18, r⟩ k18_11 s = thenV (Qc Tryz.prog hs ks ⟨18, r⟩ k18_18 s) (Qc Tryz.prog hs ks ⟨18, r⟩ k18_19) := Qc_seq (a := k18_18) (b := k18_19) (by kernel_rfl) _ _
theorem k18_18_c : Qc Tryz.prog hs ks ⟨18, r⟩ k18_18 s = Qo Tryz.prog hs ks k18_18 0 ⟨18, r⟩ s := Qc_region (id := 5) (ops := regOps k18_18) (by kernel_rfl) (by kernel_rfl) s
theorem k18_18_0 : Qo Tryz.prog hs ks k18_18 0 ⟨18, r⟩ s = stepV s (some 10) (some { v := (s.regs.get undefV 0) }) (Qo Tryz.prog hs ks k18_18 1 ⟨18, r⟩) := oR (by kernel_rfl)
theorem k18_18_1 : Qo Tryz.prog hs ks k18_18 1 ⟨18, r⟩ s = thenC (some 11) s (callS Tryz.prog hs ks 43 [(s.regs.get undefV 10)] s.h) (Qo Tryz.prog hs ks k18_18 2 ⟨18, r⟩) := cR (by kernel_rfl)
theorem k18_18_2 : Qo Tryz.prog hs ks k18_18 2 ⟨18, r⟩ s = stepV s none (xStore Tryz.prog 37 s.h.get (s.regs.get undefV 2) (s.regs.get undefV 11)) (Qo Tryz.prog hs ks k18_18 3 ⟨18, r⟩) := oR (by kernel_rfl)
theorem k18_18_3 : Qo Tryz.prog hs ks k18_18 3 ⟨18, r⟩ s = stepV s (some 3) (some { v := (.int .i64 (0)) }) (Qo Tryz.prog hs ks k18_18 4 ⟨18, r⟩) := oR (by kernel_rfl)
theorem k18_18_4 : Qo Tryz.prog hs ks k18_18 4 ⟨18, r⟩ s = some [(.normal, s)] := Qo_end (by kernel_rfl) s
theorem k18_19_c : Qc Tryz.prog hs ks ⟨18, r⟩ k18_19 s = some [(.ret, s)] := Qc_ret (by kernel_rfl) _ _
end Go.Proofs.YtelobjfgghlkfaaGreat.El
