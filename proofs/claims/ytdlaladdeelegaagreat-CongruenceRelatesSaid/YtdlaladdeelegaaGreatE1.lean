/- Hints; equations of the code. -/
import Derived.Test.YtdlaladdeelegaaGreatA8
import Derived.Test.YtdlaladdeelegaaGreatD2
import Derived.KernelRfl
set_option linter.all false
noncomputable section
namespace Go.Proofs.YtdlaladdeelegaaGreat.Cg
open Go Go.Ae
def hs : Hint where
 heap f := Nat.beq f 22
 rows f d := match d with
  | some d => (Nat.beq f 22 && (Nat.beq d 41 || Nat.beq d 58 || Nat.beq d 68)) || (Nat.beq f 26 && Nat.beq d 26)
  | none => false
 fix _ _ := []
def ks : Known where
 call f args := if f = 8 ∧ args = [] then some (.bool true) else none
 idle _ := false
abbrev R (s : St) (t : Nat) : V := T.get undefV s.regs t
abbrev C (f : Nat) (c : Code) : St → Option (List (Ex × St)) := Qc Tryz.prog hs ks ⟨f, none⟩ c
abbrev O (f : Nat) (c : Code) (j : Nat) : St → Option (List (Ex × St)) := Qo Tryz.prog hs ks c j ⟨f, none⟩
abbrev D (f : Nat) (c : Code) (bef : List Nat) (j : Nat) : List (Nat × Foot) → St → Option (List (Ex × St)) := Qd Tryz.prog hs ks c bef j ⟨f, none⟩
end Go.Proofs.YtdlaladdeelegaaGreat.Cg
end
noncomputable section
namespace Go.Proofs.YtdlaladdeelegaaGreat.Cg
open Go Go.Ae
variable (dn : List (Nat × Foot)) (s : St)
def k3 : Code := Tryz.f3.body.getD .skip
def k7 : Code := Tryz.f7.body.getD .skip
theorem k7_fun (args : List V) (ha : args.length ≤ 19) (h : H) : (EV Tryz.prog hs ks).call 7 args h = endsV Tryz.prog hs ks Tryz.f7 (C 7 k7 (S 19 (setF args 0 fun _ => undefV) [] h)) := EV_fun Tryz.func7 (by kernel_rfl) (by kernel_rfl) (by decide) rfl ha h
theorem k7_ret (f : Nat → V) (h : H) : endsV Tryz.prog hs ks Tryz.f7 (some [(.ret, S 19 f [] h)]) = resV (resultVs Tryz.prog (S 19 f [] h) [.tmp 6]) h := ends_one (by kernel_rfl) (Or.inl rfl) _ _
def k7_0 : Code := codeA k7
def k7_1 : Code := codeB k7
theorem k7_c : C 7 k7 s = thenV (C 7 k7_0 s) (C 7 k7_1) := Qc_seq (a := k7_0) (b := k7_1) (by kernel_rfl) _ _
theorem k7_0_c : C 7 k7_0 s = O 7 k7_0 0 s := Qc_region (id := 0) (ops := regOps k7_0) (by kernel_rfl) (by kernel_rfl) s
theorem k7_0_0 : O 7 k7_0 0 s = stepV s (some 6) (some { v := (.bool false) }) (O 7 k7_0 1) := oR (by kernel_rfl)
theorem k7_0_1 : O 7 k7_0 1 s = some [(.normal, s)] := Qo_end (by kernel_rfl) s
def k7_2 : Code := codeA k7_1
def k7_3 : Code := codeB k7_1
theorem k7_1_c : C 7 k7_1 s = thenV (C 7 k7_2 s) (C 7 k7_3) := Qc_seq (a := k7_2) (b := k7_3) (by kernel_rfl) _ _
theorem k7_2_c : C 7 k7_2 s = O 7 k7_2 0 s := Qc_region (id := 1) (ops := regOps k7_2) (by kernel_rfl) (by kernel_rfl) s
theorem k7_2_0 : O 7 k7_2 0 s = stepV s (some 7) (some { v := (R s 0) }) (O 7 k7_2 1) := oR (by kernel_rfl)
theorem k7_2_1 : O 7 k7_2 1 s = stepV s (some 8) (val (binV Tryz.prog .leq 3 false true (R s 7) (.int .i64 (16)))) (O 7 k7_2 2) := oR (by kernel_rfl)
theorem k7_2_2 : O 7 k7_2 2 s = stepV s (some 9) (some { v := (R s 8) }) (O 7 k7_2 3) := oR (by kernel_rfl)
theorem k7_2_3 : O 7 k7_2 3 s = if wantB (R s 9) true = true then stepV s (some 10) (some { v := (R s 1) }) (O 7 k7_2 4) else O 7 k7_2 4 (skipS s (some 10)) := oI (by kernel_rfl)
theorem k7_2_4 : O 7 k7_2 4 s = if wantB (R s 9) true = true then stepV s (some 11) (builtinV Tryz.prog false s.h.get s.h.n .len [22] [(R s 10)]) (O 7 k7_2 5) else O 7 k7_2 5 (skipS s (some 11)) := oI (by kernel_rfl)
theorem k7_2_5 : O 7 k7_2 5 s = if wantB (R s 9) true = true then stepV s (some 12) (val (binV Tryz.prog .leq 3 false true (R s 11) (.int .i64 (16)))) (O 7 k7_2 6) else O 7 k7_2 6 (skipS s (some 12)) := oI (by kernel_rfl)
theorem k7_2_6 : O 7 k7_2 6 s = stepV s (some 13) (xPick (R s 9) (R s 12) (.bool false)) (O 7 k7_2 7) := oR (by kernel_rfl)
theorem k7_2_7 : O 7 k7_2 7 s = stepV s (some 14) (some { v := (R s 13) }) (O 7 k7_2 8) := oR (by kernel_rfl)
theorem k7_2_8 : O 7 k7_2 8 s = if wantB (R s 14) true = true then stepV s (some 15) (some { v := (R s 2) }) (O 7 k7_2 9) else O 7 k7_2 9 (skipS s (some 15)) := oI (by kernel_rfl)
theorem k7_2_9 : O 7 k7_2 9 s = if wantB (R s 14) true = true then stepV s (some 16) (builtinV Tryz.prog false s.h.get s.h.n .len [22] [(R s 15)]) (O 7 k7_2 10) else O 7 k7_2 10 (skipS s (some 16)) := oI (by kernel_rfl)
theorem k7_2_10 : O 7 k7_2 10 s = if wantB (R s 14) true = true then stepV s (some 17) (val (binV Tryz.prog .leq 3 false true (R s 16) (.int .i64 (16)))) (O 7 k7_2 11) else O 7 k7_2 11 (skipS s (some 17)) := oI (by kernel_rfl)
theorem k7_2_11 : O 7 k7_2 11 s = stepV s (some 18) (xPick (R s 14) (R s 17) (.bool false)) (O 7 k7_2 12) := oR (by kernel_rfl)
theorem k7_2_12 : O 7 k7_2 12 s = stepV s (some 6) (some { v := (R s 18) }) (O 7 k7_2 13) := oR (by kernel_rfl)
theorem k7_2_13 : O 7 k7_2 13 s = some [(.normal, s)] := Qo_end (by kernel_rfl) s
theorem k7_3_c : C 7 k7_3 s = some [(.ret, s)] := Qc_ret (by kernel_rfl) _ _
def k9 : Code := Tryz.f9.body.getD .skip
theorem k9_fun (args : List V) (ha : args.length ≤ 53) (h : H) : (EV Tryz.prog hs ks).call 9 args h = endsV Tryz.prog hs ks Tryz.f9 (C 9 k9 (S 53 (setF args 0 fun _ => undefV) [] h)) := EV_fun Tryz.func9 (by kernel_rfl) (by kernel_rfl) (by decide) rfl ha h
theorem k9_ret (f : Nat → V) (h : H) : endsV Tryz.prog hs ks Tryz.f9 (some [(.ret, S 53 f [] h)]) = resV (resultVs Tryz.prog (S 53 f [] h) [.tmp 6, .tmp 7]) h := ends_one (by kernel_rfl) (Or.inl rfl) _ _
def k9_0 : Code := codeA k9
def k9_1 : Code := codeB k9
theorem k9_c : C 9 k9 s = thenV (C 9 k9_0 s) (C 9 k9_1) := Qc_seq (a := k9_0) (b := k9_1) (by kernel_rfl) _ _
theorem k9_0_c : C 9 k9_0 s = O 9 k9_0 0 s := Qc_region (id := 0) (ops := regOps k9_0) (by kernel_rfl) (by kernel_rfl) s
theorem k9_0_0 : O 9 k9_0 0 s = stepV s (some 6) (some { v := (.nils) }) (O 9 k9_0 1) := oR (by kernel_rfl)
theorem k9_0_1 : O 9 k9_0 1 s = stepV s (some 7) (some { v := (.int .i64 (0)) }) (O 9 k9_0 2) := oR (by kernel_rfl)
theorem k9_0_2 : O 9 k9_0 2 s = some [(.normal, s)] := Qo_end (by kernel_rfl) s
def k9_2 : Code := codeA k9_1
def k9_3 : Code := codeB k9_1
theorem k9_1_c : C 9 k9_1 s = thenV (C 9 k9_2 s) (C 9 k9_3) := Qc_seq (a := k9_2) (b := k9_3) (by kernel_rfl) _ _
def k9_4 : Code := codeA k9_2
def k9_5 : Code := codeB k9_2
theorem k9_2_c : C 9 k9_2 s = thenV (C 9 k9_4 s) (C 9 k9_5) := Qc_seq (a := k9_4) (b := k9_5) (by kernel_rfl) _ _
theorem k9_4_c : C 9 k9_4 s = O 9 k9_4 0 s := Qc_region (id := 1) (ops := regOps k9_4) (by kernel_rfl) (by kernel_rfl) s
theorem k9_4_0 : O 9 k9_4 0 s = stepV s (some 13) (some { v := (R s 0) }) (O 9 k9_4 1) := oR (by kernel_rfl)
theorem k9_4_1 : O 9 k9_4 1 s = stepV s (some 14) (some { v := (R s 1) }) (O 9 k9_4 2) := oR (by kernel_rfl)
theorem k9_4_2 : O 9 k9_4 2 s = stepV s (some 15) (some { v := (R s 2) }) (O 9 k9_4 3) := oR (by kernel_rfl)
theorem k9_4_3 : O 9 k9_4 3 s = thenC (some 16) s (callS Tryz.prog hs ks 21 [(R s 13), (R s 14), (R s 15)] s.h) (O 9 k9_4 4) := cR (by kernel_rfl)
theorem k9_4_4 : O 9 k9_4 4 s = stepV s (some 8) (some { v := (R s 16) }) (O 9 k9_4 5) := oR (by kernel_rfl)
theorem k9_4_5 : O 9 k9_4 5 s = some [(.normal, s)] := Qo_end (by kernel_rfl) s
def k9_6 : Code := codeA k9_5
def k9_7 : Code := codeB k9_5
theorem k9_5_c : C 9 k9_5 s = thenV (C 9 k9_6 s) (C 9 k9_7) := Qc_seq (a := k9_6) (b := k9_7) (by kernel_rfl) _ _
theorem k9_6_c : C 9 k9_6 s = O 9 k9_6 0 s := Qc_region (id := 2) (ops := regOps k9_6) (by kernel_rfl) (by kernel_rfl) s
theorem k9_6_0 : O 9 k9_6 0 s = stepV s (some 17) (some { v := (R s 8) }) (O 9 k9_6 1) := oR (by kernel_rfl)
theorem k9_6_1 : O 9 k9_6 1 s = stepV s (some 18) (val (binV Tryz.prog .neq 28 false true (R s 17) (.int .i64 (0)))) (O 9 k9_6 2) := oR (by kernel_rfl)
theorem k9_6_2 : O 9 k9_6 2 s = some [(.normal, s)] := Qo_end (by kernel_rfl) s
def k9_8 : Code := codeA k9_7
def k9_9 : Code := codeB k9_7
theorem k9_7_c : C 9 k9_7 s = condV (R s 18) (C 9 k9_8) (C 9 k9_9) s := Qc_cond (t := 18) (a := k9_8) (b := k9_9) (by kernel_rfl) _ _
def k9_10 : Code := codeA k9_8
def k9_11 : Code := codeB k9_8
theorem k9_8_c : C 9 k9_8 s = thenV (C 9 k9_10 s) (C 9 k9_11) := Qc_seq (a := k9_10) (b := k9_11) (by kernel_rfl) _ _
theorem k9_10_c : C 9 k9_10 s = O 9 k9_10 0 s := Qc_region (id := 3) (ops := regOps k9_10) (by kernel_rfl) (by kernel_rfl) s
theorem k9_10_0 : O 9 k9_10 0 s = stepV s (some 19) (some { v := (R s 8) }) (O 9 k9_10 1) := oR (by kernel_rfl)
theorem k9_10_1 : O 9 k9_10 1 s = stepV s (some 6) (some { v := (.nils) }) (O 9 k9_10 2) := oR (by kernel_rfl)
theorem k9_10_2 : O 9 k9_10 2 s = stepV s (some 7) (some { v := (R s 19) }) (O 9 k9_10 3) := oR (by kernel_rfl)
theorem k9_10_3 : O 9 k9_10 3 s = some [(.normal, s)] := Qo_end (by kernel_rfl) s
theorem k9_11_c : C 9 k9_11 s = some [(.ret, s)] := Qc_ret (by kernel_rfl) _ _
theorem k9_9_c : C 9 k9_9 s = some [(.normal, s)] := Qc_skip (by kernel_rfl) _ _
def k9_12 : Code := codeA k9_3
def k9_13 : Code := codeB k9_3
theorem k9_3_c : C 9 k9_3 s = thenV (C 9 k9_12 s) (C 9 k9_13) := Qc_seq (a := k9_12) (b := k9_13) (by kernel_rfl) _ _
theorem k9_12_c : C 9 k9_12 s = O 9 k9_12 0 s := Qc_region (id := 4) (ops := regOps k9_12) (by kernel_rfl) (by kernel_rfl) s
theorem k9_12_0 : O 9 k9_12 0 s = stepV s (some 20) (some { v := (R s 0) }) (O 9 k9_12 1) := oR (by kernel_rfl)
theorem k9_12_1 : O 9 k9_12 1 s = stepV s (some 21) (some { v := (R s 1) }) (O 9 k9_12 2) := oR (by kernel_rfl)
theorem k9_12_2 : O 9 k9_12 2 s = stepV s (some 22) (some { v := (R s 2) }) (O 9 k9_12 3) := oR (by kernel_rfl)
theorem k9_12_3 : O 9 k9_12 3 s = thenC (some 23) s (callS Tryz.prog hs ks 22 [(R s 20), (R s 21), (R s 22), (.fn (.func 23) [] [])] s.h) (O 9 k9_12 4) := cR (by kernel_rfl)
theorem k9_12_4 : O 9 k9_12 4 s = stepV s (some 9) (some { v := (R s 23) }) (O 9 k9_12 5) := oR (by kernel_rfl)
theorem k9_12_5 : O 9 k9_12 5 s = some [(.normal, s)] := Qo_end (by kernel_rfl) s
def k9_14 : Code := codeA k9_13
def k9_15 : Code := codeB k9_13
theorem k9_13_c : C 9 k9_13 s = thenV (C 9 k9_14 s) (C 9 k9_15) := Qc_seq (a := k9_14) (b := k9_15) (by kernel_rfl) _ _
theorem k9_14_c : C 9 k9_14 s = O 9 k9_14 0 s := Qc_region (id := 5) (ops := regOps k9_14) (by kernel_rfl) (by kernel_rfl) s
theorem k9_14_0 : O 9 k9_14 0 s = stepV s (some 24) (some { v := (R s 9) }) (O 9 k9_14 1) := oR (by kernel_rfl)
theorem k9_14_1 : O 9 k9_14 1 s = stepV s (some 25) (xNilCheck Tryz.prog (R s 24)) (O 9 k9_14 2) := oR (by kernel_rfl)
theorem k9_14_2 : O 9 k9_14 2 s = stepV s (some 26) (val (addrAdd (R s 25) 2)) (O 9 k9_14 3) := oR (by kernel_rfl)
theorem k9_14_3 : O 9 k9_14 3 s = stepV s (some 27) (xLoad Tryz.prog 27 s.h.get (R s 26)) (O 9 k9_14 4) := oR (by kernel_rfl)
theorem k9_14_4 : O 9 k9_14 4 s = stepV s (some 28) (builtinV Tryz.prog false s.h.get s.h.n .len [27] [(R s 27)]) (O 9 k9_14 5) := oR (by kernel_rfl)
theorem k9_14_5 : O 9 k9_14 5 s = stepV s (some 29) (mkS Tryz.prog 3 s.h.n (R s 28) (R s 28)) (O 9 k9_14 6) := oR (by kernel_rfl)
theorem k9_14_6 : O 9 k9_14 6 s = stepV s (some 10) (some { v := (R s 29) }) (O 9 k9_14 7) := oR (by kernel_rfl)
theorem k9_14_7 : O 9 k9_14 7 s = some [(.normal, s)] := Qo_end (by kernel_rfl) s
def k9_16 : Code := codeA k9_15
def k9_17 : Code := codeB k9_15
theorem k9_15_c : C 9 k9_15 s = thenV (C 9 k9_16 s) (C 9 k9_17) := Qc_seq (a := k9_16) (b := k9_17) (by kernel_rfl) _ _
def k9_18 : Code := codeA k9_16
def k9_19 : Code := codeB k9_16
theorem k9_16_c : C 9 k9_16 s = thenV (C 9 k9_18 s) (C 9 k9_19) := Qc_seq (a := k9_18) (b := k9_19) (by kernel_rfl) _ _
theorem k9_18_c : C 9 k9_18 s = O 9 k9_18 0 s := Qc_region (id := 6) (ops := regOps k9_18) (by kernel_rfl) (by kernel_rfl) s
theorem k9_18_0 : O 9 k9_18 0 s = stepV s (some 30) (some { v := (R s 9) }) (O 9 k9_18 1) := oR (by kernel_rfl)
theorem k9_18_1 : O 9 k9_18 1 s = stepV s (some 31) (xNilCheck Tryz.prog (R s 30)) (O 9 k9_18 2) := oR (by kernel_rfl)
theorem k9_18_2 : O 9 k9_18 2 s = stepV s (some 32) (val (addrAdd (R s 31) 2)) (O 9 k9_18 3) := oR (by kernel_rfl)
theorem k9_18_3 : O 9 k9_18 3 s = stepV s (some 33) (xLoad Tryz.prog 27 s.h.get (R s 32)) (O 9 k9_18 4) := oR (by kernel_rfl)
theorem k9_18_4 : O 9 k9_18 4 s = stepV s (some 34) (builtinV Tryz.prog false s.h.get s.h.n .len [27] [(R s 33)]) (O 9 k9_18 5) := oR (by kernel_rfl)
theorem k9_18_5 : O 9 k9_18 5 s = stepV s (some 35) (some { v := (.int .i64 (0)) }) (O 9 k9_18 6) := oR (by kernel_rfl)
theorem k9_18_6 : O 9 k9_18 6 s = some [(.normal, s)] := Qo_end (by kernel_rfl) s
def k9_20 : Code := codeA k9_19
theorem k9_19_c : C 9 k9_19 s = blockV 0 (C 9 k9_20 s) := Qc_block (b := k9_20) (by kernel_rfl) _ _
def k9_21 : Code := codeA k9_20
theorem k9_20_l : C 9 k9_20 s = thenV (C 9 k9_21 s) (C 9 k9_20) := Qc_loop (b := k9_21) (by kernel_rfl) _ _
def k9_22 : Code := codeA k9_21
def k9_23 : Code := codeB k9_21
theorem k9_21_c : C 9 k9_21 s = thenV (C 9 k9_22 s) (C 9 k9_23) := Qc_seq (a := k9_22) (b := k9_23) (by kernel_rfl) _ _
theorem k9_22_c : C 9 k9_22 s = O 9 k9_22 0 s := Qc_region (id := 7) (ops := regOps k9_22) (by kernel_rfl) (by kernel_rfl) s
theorem k9_22_0 : O 9 k9_22 0 s = stepV s (some 36) (val (binV Tryz.prog .lss 3 false false (R s 35) (R s 34))) (O 9 k9_22 1) := oR (by kernel_rfl)
theorem k9_22_1 : O 9 k9_22 1 s = some [(.normal, s)] := Qo_end (by kernel_rfl) s
def k9_24 : Code := codeA k9_23
def k9_25 : Code := codeB k9_23
theorem k9_23_c : C 9 k9_23 s = thenV (C 9 k9_24 s) (C 9 k9_25) := Qc_seq (a := k9_24) (b := k9_25) (by kernel_rfl) _ _
def k9_26 : Code := codeA k9_24
def k9_27 : Code := codeB k9_24
theorem k9_24_c : C 9 k9_24 s = condV (R s 36) (C 9 k9_26) (C 9 k9_27) s := Qc_cond (t := 36) (a := k9_26) (b := k9_27) (by kernel_rfl) _ _
theorem k9_26_c : C 9 k9_26 s = some [(.normal, s)] := Qc_skip (by kernel_rfl) _ _
theorem k9_27_c : C 9 k9_27 s = some [(.exit 0, s)] := Qc_exit (by kernel_rfl) _ _
def k9_28 : Code := codeA k9_25
def k9_29 : Code := codeB k9_25
theorem k9_25_c : C 9 k9_25 s = thenV (C 9 k9_28 s) (C 9 k9_29) := Qc_seq (a := k9_28) (b := k9_29) (by kernel_rfl) _ _
def k9_30 : Code := codeA k9_28
theorem k9_28_c : C 9 k9_28 s = blockV 1 (C 9 k9_30 s) := Qc_block (b := k9_30) (by kernel_rfl) _ _
def k9_31 : Code := codeA k9_30
def k9_32 : Code := codeB k9_30
theorem k9_30_c : C 9 k9_30 s = thenV (C 9 k9_31 s) (C 9 k9_32) := Qc_seq (a := k9_31) (b := k9_32) (by kernel_rfl) _ _
theorem k9_31_c : C 9 k9_31 s = O 9 k9_31 0 s := Qc_region (id := 8) (ops := regOps k9_31) (by kernel_rfl) (by kernel_rfl) s
theorem k9_31_0 : O 9 k9_31 0 s = stepV s (some 37) (some { v := (R s 35) }) (O 9 k9_31 1) := oR (by kernel_rfl)
theorem k9_31_1 : O 9 k9_31 1 s = stepV s (some 38) (val (indexAddr Tryz.prog 27 (R s 33) (R s 35))) (O 9 k9_31 2) := oR (by kernel_rfl)
theorem k9_31_2 : O 9 k9_31 2 s = stepV s (some 39) (xLoad Tryz.prog 3 s.h.get (R s 38)) (O 9 k9_31 3) := oR (by kernel_rfl)
theorem k9_31_3 : O 9 k9_31 3 s = stepV s (some 11) (some { v := (R s 37) }) (O 9 k9_31 4) := oR (by kernel_rfl)
theorem k9_31_4 : O 9 k9_31 4 s = stepV s (some 12) (some { v := (R s 39) }) (O 9 k9_31 5) := oR (by kernel_rfl)
theorem k9_31_5 : O 9 k9_31 5 s = some [(.normal, s)] := Qo_end (by kernel_rfl) s
theorem k9_32_c : C 9 k9_32 s = O 9 k9_32 0 s := Qc_region (id := 9) (ops := regOps k9_32) (by kernel_rfl) (by kernel_rfl) s
theorem k9_32_0 : O 9 k9_32 0 s = stepV s (some 40) (some { v := (R s 10) }) (O 9 k9_32 1) := oR (by kernel_rfl)
theorem k9_32_1 : O 9 k9_32 1 s = stepV s (some 41) (some { v := (R s 11) }) (O 9 k9_32 2) := oR (by kernel_rfl)
theorem k9_32_2 : O 9 k9_32 2 s = stepV s (some 42) (some { v := (R s 9) }) (O 9 k9_32 3) := oR (by kernel_rfl)
theorem k9_32_3 : O 9 k9_32 3 s = stepV s (some 43) (xNilCheck Tryz.prog (R s 42)) (O 9 k9_32 4) := oR (by kernel_rfl)
theorem k9_32_4 : O 9 k9_32 4 s = stepV s (some 44) (val (addrAdd (R s 43) 3)) (O 9 k9_32 5) := oR (by kernel_rfl)
theorem k9_32_5 : O 9 k9_32 5 s = stepV s (some 45) (xLoad Tryz.prog 78 s.h.get (R s 44)) (O 9 k9_32 6) := oR (by kernel_rfl)
theorem k9_32_6 : O 9 k9_32 6 s = stepV s (some 46) (some { v := (R s 12) }) (O 9 k9_32 7) := oR (by kernel_rfl)
theorem k9_32_7 : O 9 k9_32 7 s = stepV s (some 47) (val (indexAddr Tryz.prog 78 (R s 45) (R s 46))) (O 9 k9_32 8) := oR (by kernel_rfl)
theorem k9_32_8 : O 9 k9_32 8 s = stepV s (some 48) (xLoad Tryz.prog 27 s.h.get (R s 47)) (O 9 k9_32 9) := oR (by kernel_rfl)
theorem k9_32_9 : O 9 k9_32 9 s = thenC (some 49) s (callS Tryz.prog hs ks 24 [(R s 48)] s.h) (O 9 k9_32 10) := cR (by kernel_rfl)
theorem k9_32_10 : O 9 k9_32 10 s = stepV s (some 50) (val (indexAddr Tryz.prog 27 (R s 40) (R s 41))) (O 9 k9_32 11) := oR (by kernel_rfl)
theorem k9_32_11 : O 9 k9_32 11 s = stepV s none (xStore Tryz.prog 3 s.h.get (R s 50) (R s 49)) (O 9 k9_32 12) := oR (by kernel_rfl)
theorem k9_32_12 : O 9 k9_32 12 s = some [(.normal, s)] := Qo_end (by kernel_rfl) s
theorem k9_29_c : C 9 k9_29 s = O 9 k9_29 0 s := Qc_region (id := 10) (ops := regOps k9_29) (by kernel_rfl) (by kernel_rfl) s
theorem k9_29_0 : O 9 k9_29 0 s = stepV s (some 51) (val (binV Tryz.prog .add 3 false true (R s 35) (.int .i64 (1)))) (O 9 k9_29 1) := oR (by kernel_rfl)
theorem k9_29_1 : O 9 k9_29 1 s = stepV s (some 35) (some { v := (R s 51) }) (O 9 k9_29 2) := oR (by kernel_rfl)
theorem k9_29_2 : O 9 k9_29 2 s = some [(.normal, s)] := Qo_end (by kernel_rfl) s
def k9_33 : Code := codeA k9_17
def k9_34 : Code := codeB k9_17
theorem k9_17_c : C 9 k9_17 s = thenV (C 9 k9_33 s) (C 9 k9_34) := Qc_seq (a := k9_33) (b := k9_34) (by kernel_rfl) _ _
theorem k9_33_c : C 9 k9_33 s = O 9 k9_33 0 s := Qc_region (id := 11) (ops := regOps k9_33) (by kernel_rfl) (by kernel_rfl) s
theorem k9_33_0 : O 9 k9_33 0 s = stepV s (some 52) (some { v := (R s 10) }) (O 9 k9_33 1) := oR (by kernel_rfl)
theorem k9_33_1 : O 9 k9_33 1 s = stepV s (some 6) (some { v := (R s 52) }) (O 9 k9_33 2) := oR (by kernel_rfl)
theorem k9_33_2 : O 9 k9_33 2 s = stepV s (some 7) (some { v := (.int .i64 (0)) }) (O 9 k9_33 3) := oR (by kernel_rfl)
theorem k9_33_3 : O 9 k9_33 3 s = some [(.normal, s)] := Qo_end (by kernel_rfl) s
theorem k9_34_c : C 9 k9_34 s = some [(.ret, s)] := Qc_ret (by kernel_rfl) _ _
def k21 : Code := Tryz.f21.body.getD .skip
theorem k21_fun (args : List V) (ha : args.length ≤ 56) (h : H) : (EV Tryz.prog hs ks).call 21 args h = endsV Tryz.prog hs ks Tryz.f21 (C 21 k21 (S 56 (setF args 0 fun _ => undefV) [] h)) := EV_fun Tryz.func21 (by kernel_rfl) (by kernel_rfl) (by decide) rfl ha h
theorem k21_ret (f : Nat → V) (h : H) : endsV Tryz.prog hs ks Tryz.f21 (some [(.ret, S 56 f [] h)]) = resV (resultVs Tryz.prog (S 56 f [] h) [.tmp 6]) h := ends_one (by kernel_rfl) (Or.inl rfl) _ _
def k21_0 : Code := codeA k21
def k21_1 : Code := codeB k21
theorem k21_c : C 21 k21 s = thenV (C 21 k21_0 s) (C 21 k21_1) := Qc_seq (a := k21_0) (b := k21_1) (by kernel_rfl) _ _
theorem k21_0_c : C 21 k21_0 s = O 21 k21_0 0 s := Qc_region (id := 0) (ops := regOps k21_0) (by kernel_rfl) (by kernel_rfl) s
theorem k21_0_0 : O 21 k21_0 0 s = stepV s (some 6) (some { v := (.int .i64 (0)) }) (O 21 k21_0 1) := oR (by kernel_rfl)
theorem k21_0_1 : O 21 k21_0 1 s = some [(.normal, s)] := Qo_end (by kernel_rfl) s
def k21_2 : Code := codeA k21_1
def k21_3 : Code := codeB k21_1
theorem k21_1_c : C 21 k21_1 s = thenV (C 21 k21_2 s) (C 21 k21_3) := Qc_seq (a := k21_2) (b := k21_3) (by kernel_rfl) _ _
def k21_4 : Code := codeA k21_2
theorem k21_2_c : C 21 k21_2 s = blockV 0 (C 21 k21_4 s) := Qc_block (b := k21_4) (by kernel_rfl) _ _
def k21_5 : Code := codeA k21_4
def k21_6 : Code := codeB k21_4
theorem k21_4_c : C 21 k21_4 s = thenV (C 21 k21_5 s) (C 21 k21_6) := Qc_seq (a := k21_5) (b := k21_6) (by kernel_rfl) _ _
theorem k21_5_c : C 21 k21_5 s = O 21 k21_5 0 s := Qc_region (id := 1) (ops := regOps k21_5) (by kernel_rfl) (by kernel_rfl) s
theorem k21_5_0 : O 21 k21_5 0 s = stepV s (some 13) (some { v := (R s 0) }) (O 21 k21_5 1) := oR (by kernel_rfl)
theorem k21_5_1 : O 21 k21_5 1 s = stepV s (some 14) (val (binV Tryz.prog .lss 3 false true (R s 13) (.int .i64 (0)))) (O 21 k21_5 2) := oR (by kernel_rfl)
theorem k21_5_2 : O 21 k21_5 2 s = stepV s (some 12) (some { v := (R s 14) }) (O 21 k21_5 3) := oR (by kernel_rfl)
theorem k21_5_3 : O 21 k21_5 3 s = some [(.normal, s)] := Qo_end (by kernel_rfl) s
def k21_7 : Code := codeA k21_6
def k21_8 : Code := codeB k21_6
theorem k21_6_c : C 21 k21_6 s = condV (R s 12) (C 21 k21_7) (C 21 k21_8) s := Qc_cond (t := 12) (a := k21_7) (b := k21_8) (by kernel_rfl) _ _
def k21_9 : Code := codeA k21_7
def k21_10 : Code := codeB k21_7
theorem k21_7_c : C 21 k21_7 s = thenV (C 21 k21_9 s) (C 21 k21_10) := Qc_seq (a := k21_9) (b := k21_10) (by kernel_rfl) _ _
theorem k21_9_c : C 21 k21_9 s = O 21 k21_9 0 s := Qc_region (id := 2) (ops := regOps k21_9) (by kernel_rfl) (by kernel_rfl) s
theorem k21_9_0 : O 21 k21_9 0 s = stepV s (some 6) (some { v := (.int .i64 (2)) }) (O 21 k21_9 1) := oR (by kernel_rfl)
theorem k21_9_1 : O 21 k21_9 1 s = some [(.normal, s)] := Qo_end (by kernel_rfl) s
theorem k21_10_c : C 21 k21_10 s = some [(.ret, s)] := Qc_ret (by kernel_rfl) _ _
def k21_11 : Code := codeA k21_8
def k21_12 : Code := codeB k21_8
theorem k21_8_c : C 21 k21_8 s = thenV (C 21 k21_11 s) (C 21 k21_12) := Qc_seq (a := k21_11) (b := k21_12) (by kernel_rfl) _ _
def k21_13 : Code := codeA k21_11
def k21_14 : Code := codeB k21_11
theorem k21_11_c : C 21 k21_11 s = thenV (C 21 k21_13 s) (C 21 k21_14) := Qc_seq (a := k21_13) (b := k21_14) (by kernel_rfl) _ _
theorem k21_13_c : C 21 k21_13 s = O 21 k21_13 0 s := Qc_region (id := 3) (ops := regOps k21_13) (by kernel_rfl) (by kernel_rfl) s
theorem k21_13_0 : O 21 k21_13 0 s = stepV s (some 16) (some { v := (R s 0) }) (O 21 k21_13 1) := oR (by kernel_rfl)
theorem k21_13_1 : O 21 k21_13 1 s = stepV s (some 17) (val (binV Tryz.prog .gtr 3 false true (R s 16) (.int .i64 (2000)))) (O 21 k21_13 2) := oR (by kernel_rfl)
theorem k21_13_2 : O 21 k21_13 2 s = stepV s (some 15) (some { v := (R s 17) }) (O 21 k21_13 3) := oR (by kernel_rfl)
theorem k21_13_3 : O 21 k21_13 3 s = some [(.normal, s)] := Qo_end (by kernel_rfl) s
def k21_15 : Code := codeA k21_14
def k21_16 : Code := codeB k21_14
theorem k21_14_c : C 21 k21_14 s = condV (R s 15) (C 21 k21_15) (C 21 k21_16) s := Qc_cond (t := 15) (a := k21_15) (b := k21_16) (by kernel_rfl) _ _
def k21_17 : Code := codeA k21_16
def k21_18 : Code := codeB k21_16
theorem k21_16_c : C 21 k21_16 s = thenV (C 21 k21_17 s) (C 21 k21_18) := Qc_seq (a := k21_17) (b := k21_18) (by kernel_rfl) _ _
theorem k21_17_c : C 21 k21_17 s = O 21 k21_17 0 s := Qc_region (id := 4) (ops := regOps k21_17) (by kernel_rfl) (by kernel_rfl) s
theorem k21_17_0 : O 21 k21_17 0 s = stepV s (some 18) (some { v := (R s 0) }) (O 21 k21_17 1) := oR (by kernel_rfl)
theorem k21_17_1 : O 21 k21_17 1 s = stepV s (some 19) (some { v := (R s 1) }) (O 21 k21_17 2) := oR (by kernel_rfl)
theorem k21_17_2 : O 21 k21_17 2 s = stepV s (some 20) (builtinV Tryz.prog false s.h.get s.h.n .len [22] [(R s 19)]) (O 21 k21_17 3) := oR (by kernel_rfl)
theorem k21_17_3 : O 21 k21_17 3 s = stepV s (some 21) (val (binV Tryz.prog .add 3 false false (R s 18) (R s 20))) (O 21 k21_17 4) := oR (by kernel_rfl)
theorem k21_17_4 : O 21 k21_17 4 s = stepV s (some 22) (val (binV Tryz.prog .gtr 3 false true (R s 21) (.int .i64 (2000)))) (O 21 k21_17 5) := oR (by kernel_rfl)
theorem k21_17_5 : O 21 k21_17 5 s = stepV s (some 15) (some { v := (R s 22) }) (O 21 k21_17 6) := oR (by kernel_rfl)
theorem k21_17_6 : O 21 k21_17 6 s = some [(.normal, s)] := Qo_end (by kernel_rfl) s
def k21_19 : Code := codeA k21_18
def k21_20 : Code := codeB k21_18
theorem k21_18_c : C 21 k21_18 s = condV (R s 15) (C 21 k21_19) (C 21 k21_20) s := Qc_cond (t := 15) (a := k21_19) (b := k21_20) (by kernel_rfl) _ _
theorem k21_20_c : C 21 k21_20 s = O 21 k21_20 0 s := Qc_region (id := 5) (ops := regOps k21_20) (by kernel_rfl) (by kernel_rfl) s
theorem k21_20_0 : O 21 k21_20 0 s = stepV s (some 23) (some { v := (R s 2) }) (O 21 k21_20 1) := oR (by kernel_rfl)
theorem k21_20_1 : O 21 k21_20 1 s = stepV s (some 24) (builtinV Tryz.prog false s.h.get s.h.n .len [22] [(R s 23)]) (O 21 k21_20 2) := oR (by kernel_rfl)
theorem k21_20_2 : O 21 k21_20 2 s = stepV s (some 25) (val (binV Tryz.prog .gtr 3 false true (R s 24) (.int .i64 (2000)))) (O 21 k21_20 3) := oR (by kernel_rfl)
theorem k21_20_3 : O 21 k21_20 3 s = stepV s (some 15) (some { v := (R s 25) }) (O 21 k21_20 4) := oR (by kernel_rfl)
theorem k21_20_4 : O 21 k21_20 4 s = some [(.normal, s)] := Qo_end (by kernel_rfl) s
def k21_21 : Code := codeA k21_12
def k21_22 : Code := codeB k21_12
theorem k21_12_c : C 21 k21_12 s = condV (R s 15) (C 21 k21_21) (C 21 k21_22) s := Qc_cond (t := 15) (a := k21_21) (b := k21_22) (by kernel_rfl) _ _
theorem k21_22_c : C 21 k21_22 s = some [(.normal, s)] := Qc_skip (by kernel_rfl) _ _
def k21_25 : Code := codeA k21_3
def k21_26 : Code := codeB k21_3
theorem k21_3_c : C 21 k21_3 s = thenV (C 21 k21_25 s) (C 21 k21_26) := Qc_seq (a := k21_25) (b := k21_26) (by kernel_rfl) _ _
theorem k21_25_c : C 21 k21_25 s = O 21 k21_25 0 s := Qc_region (id := 7) (ops := regOps k21_25) (by kernel_rfl) (by kernel_rfl) s
theorem k21_25_0 : O 21 k21_25 0 s = stepV s (some 7) (some { v := (.fn (.func 47) [] []) }) (O 21 k21_25 1) := oR (by kernel_rfl)
theorem k21_25_1 : O 21 k21_25 1 s = some [(.normal, s)] := Qo_end (by kernel_rfl) s
def k21_27 : Code := codeA k21_26
def k21_28 : Code := codeB k21_26
theorem k21_26_c : C 21 k21_26 s = thenV (C 21 k21_27 s) (C 21 k21_28) := Qc_seq (a := k21_27) (b := k21_28) (by kernel_rfl) _ _
def k21_29 : Code := codeA k21_27
def k21_30 : Code := codeB k21_27
theorem k21_27_c : C 21 k21_27 s = thenV (C 21 k21_29 s) (C 21 k21_30) := Qc_seq (a := k21_29) (b := k21_30) (by kernel_rfl) _ _
theorem k21_29_c : C 21 k21_29 s = O 21 k21_29 0 s := Qc_region (id := 8) (ops := regOps k21_29) (by kernel_rfl) (by kernel_rfl) s
theorem k21_29_0 : O 21 k21_29 0 s = stepV s (some 26) (some { v := (R s 1) }) (O 21 k21_29 1) := oR (by kernel_rfl)
theorem k21_29_1 : O 21 k21_29 1 s = stepV s (some 27) (builtinV Tryz.prog false s.h.get s.h.n .len [22] [(R s 26)]) (O 21 k21_29 2) := oR (by kernel_rfl)
theorem k21_29_2 : O 21 k21_29 2 s = stepV s (some 28) (some { v := (.int .i64 (0)) }) (O 21 k21_29 3) := oR (by kernel_rfl)
theorem k21_29_3 : O 21 k21_29 3 s = some [(.normal, s)] := Qo_end (by kernel_rfl) s
def k21_31 : Code := codeA k21_30
theorem k21_30_c : C 21 k21_30 s = blockV 1 (C 21 k21_31 s) := Qc_block (b := k21_31) (by kernel_rfl) _ _
def k21_32 : Code := codeA k21_31
theorem k21_31_l : C 21 k21_31 s = thenV (C 21 k21_32 s) (C 21 k21_31) := Qc_loop (b := k21_32) (by kernel_rfl) _ _
def k21_33 : Code := codeA k21_32
def k21_34 : Code := codeB k21_32
theorem k21_32_c : C 21 k21_32 s = thenV (C 21 k21_33 s) (C 21 k21_34) := Qc_seq (a := k21_33) (b := k21_34) (by kernel_rfl) _ _
theorem k21_33_c : C 21 k21_33 s = O 21 k21_33 0 s := Qc_region (id := 9) (ops := regOps k21_33) (by kernel_rfl) (by kernel_rfl) s
theorem k21_33_0 : O 21 k21_33 0 s = stepV s (some 29) (val (binV Tryz.prog .lss 3 false false (R s 28) (R s 27))) (O 21 k21_33 1) := oR (by kernel_rfl)
theorem k21_33_1 : O 21 k21_33 1 s = some [(.normal, s)] := Qo_end (by kernel_rfl) s
def k21_35 : Code := codeA k21_34
def k21_36 : Code := codeB k21_34
theorem k21_34_c : C 21 k21_34 s = thenV (C 21 k21_35 s) (C 21 k21_36) := Qc_seq (a := k21_35) (b := k21_36) (by kernel_rfl) _ _
def k21_37 : Code := codeA k21_35
def k21_38 : Code := codeB k21_35
theorem k21_35_c : C 21 k21_35 s = condV (R s 29) (C 21 k21_37) (C 21 k21_38) s := Qc_cond (t := 29) (a := k21_37) (b := k21_38) (by kernel_rfl) _ _
theorem k21_37_c : C 21 k21_37 s = some [(.normal, s)] := Qc_skip (by kernel_rfl) _ _
theorem k21_38_c : C 21 k21_38 s = some [(.exit 1, s)] := Qc_exit (by kernel_rfl) _ _
def k21_39 : Code := codeA k21_36
def k21_40 : Code := codeB k21_36
theorem k21_36_c : C 21 k21_36 s = thenV (C 21 k21_39 s) (C 21 k21_40) := Qc_seq (a := k21_39) (b := k21_40) (by kernel_rfl) _ _
def k21_41 : Code := codeA k21_39
theorem k21_39_c : C 21 k21_39 s = blockV 2 (C 21 k21_41 s) := Qc_block (b := k21_41) (by kernel_rfl) _ _
def k21_42 : Code := codeA k21_41
def k21_43 : Code := codeB k21_41
theorem k21_41_c : C 21 k21_41 s = thenV (C 21 k21_42 s) (C 21 k21_43) := Qc_seq (a := k21_42) (b := k21_43) (by kernel_rfl) _ _
theorem k21_42_c : C 21 k21_42 s = O 21 k21_42 0 s := Qc_region (id := 10) (ops := regOps k21_42) (by kernel_rfl) (by kernel_rfl) s
theorem k21_42_0 : O 21 k21_42 0 s = stepV s (some 30) (some { v := (R s 28) }) (O 21 k21_42 1) := oR (by kernel_rfl)
theorem k21_42_1 : O 21 k21_42 1 s = stepV s (some 31) (val (indexAddr Tryz.prog 22 (R s 26) (R s 28))) (O 21 k21_42 2) := oR (by kernel_rfl)
theorem k21_42_2 : O 21 k21_42 2 s = stepV s (some 32) (xLoad Tryz.prog 42 s.h.get (R s 31)) (O 21 k21_42 3) := oR (by kernel_rfl)
theorem k21_42_3 : O 21 k21_42 3 s = stepV s (some 9) (some { v := .ptr s.h.n 0, nw := [.row 0 [.int .i64 (0), .int .i64 (0)]] }) (O 21 k21_42 4) := oR (by kernel_rfl)
theorem k21_42_4 : O 21 k21_42 4 s = stepV s (some 8) (some { v := (R s 30) }) (O 21 k21_42 5) := oR (by kernel_rfl)
theorem k21_42_5 : O 21 k21_42 5 s = stepV s none (xStore Tryz.prog 42 s.h.get (R s 9) (R s 32)) (O 21 k21_42 6) := oR (by kernel_rfl)
theorem k21_42_6 : O 21 k21_42 6 s = some [(.normal, s)] := Qo_end (by kernel_rfl) s
def k21_44 : Code := codeA k21_43
def k21_45 : Code := codeB k21_43
theorem k21_43_c : C 21 k21_43 s = thenV (C 21 k21_44 s) (C 21 k21_45) := Qc_seq (a := k21_44) (b := k21_45) (by kernel_rfl) _ _
theorem k21_44_c : C 21 k21_44 s = O 21 k21_44 0 s := Qc_region (id := 11) (ops := regOps k21_44) (by kernel_rfl) (by kernel_rfl) s
theorem k21_44_0 : O 21 k21_44 0 s = stepV s (some 33) (some { v := (R s 7) }) (O 21 k21_44 1) := oR (by kernel_rfl)
theorem k21_44_1 : O 21 k21_44 1 s = stepV s (some 34) (xLoad Tryz.prog 42 s.h.get (R s 9)) (O 21 k21_44 2) := oR (by kernel_rfl)
theorem k21_44_2 : O 21 k21_44 2 s = stepV s (some 35) (some { v := (R s 0) }) (O 21 k21_44 3) := oR (by kernel_rfl)
theorem k21_44_3 : O 21 k21_44 3 s = stepV s (some 36) (some { v := (R s 8) }) (O 21 k21_44 4) := oR (by kernel_rfl)
theorem k21_44_4 : O 21 k21_44 4 s = stepV s (some 37) (val (binV Tryz.prog .add 3 false false (R s 35) (R s 36))) (O 21 k21_44 5) := oR (by kernel_rfl)
theorem k21_44_5 : O 21 k21_44 5 s = thenC (some 38) s (callX Tryz.prog hs ks (callOf (R s 33) [(R s 34), (R s 37)]) s.h) (O 21 k21_44 6) := xR (by kernel_rfl)
theorem k21_44_6 : O 21 k21_44 6 s = stepV s (some 39) (xUn .not (R s 38)) (O 21 k21_44 7) := oR (by kernel_rfl)
theorem k21_44_7 : O 21 k21_44 7 s = some [(.normal, s)] := Qo_end (by kernel_rfl) s
def k21_46 : Code := codeA k21_45
def k21_47 : Code := codeB k21_45
theorem k21_45_c : C 21 k21_45 s = condV (R s 39) (C 21 k21_46) (C 21 k21_47) s := Qc_cond (t := 39) (a := k21_46) (b := k21_47) (by kernel_rfl) _ _
def k21_48 : Code := codeA k21_46
def k21_49 : Code := codeB k21_46
theorem k21_46_c : C 21 k21_46 s = thenV (C 21 k21_48 s) (C 21 k21_49) := Qc_seq (a := k21_48) (b := k21_49) (by kernel_rfl) _ _
theorem k21_48_c : C 21 k21_48 s = O 21 k21_48 0 s := Qc_region (id := 12) (ops := regOps k21_48) (by kernel_rfl) (by kernel_rfl) s
theorem k21_48_0 : O 21 k21_48 0 s = stepV s (some 6) (some { v := (.int .i64 (2)) }) (O 21 k21_48 1) := oR (by kernel_rfl)
theorem k21_48_1 : O 21 k21_48 1 s = some [(.normal, s)] := Qo_end (by kernel_rfl) s
theorem k21_49_c : C 21 k21_49 s = some [(.ret, s)] := Qc_ret (by kernel_rfl) _ _
theorem k21_47_c : C 21 k21_47 s = some [(.normal, s)] := Qc_skip (by kernel_rfl) _ _
theorem k21_40_c : C 21 k21_40 s = O 21 k21_40 0 s := Qc_region (id := 13) (ops := regOps k21_40) (by kernel_rfl) (by kernel_rfl) s
theorem k21_40_0 : O 21 k21_40 0 s = stepV s (some 40) (val (binV Tryz.prog .add 3 false true (R s 28) (.int .i64 (1)))) (O 21 k21_40 1) := oR (by kernel_rfl)
theorem k21_40_1 : O 21 k21_40 1 s = stepV s (some 28) (some { v := (R s 40) }) (O 21 k21_40 2) := oR (by kernel_rfl)
theorem k21_40_2 : O 21 k21_40 2 s = some [(.normal, s)] := Qo_end (by kernel_rfl) s
def k21_50 : Code := codeA k21_28
def k21_51 : Code := codeB k21_28
theorem k21_28_c : C 21 k21_28 s = thenV (C 21 k21_50 s) (C 21 k21_51) := Qc_seq (a := k21_50) (b := k21_51) (by kernel_rfl) _ _
def k21_52 : Code := codeA k21_50
def k21_53 : Code := codeB k21_50
theorem k21_50_c : C 21 k21_50 s = thenV (C 21 k21_52 s) (C 21 k21_53) := Qc_seq (a := k21_52) (b := k21_53) (by kernel_rfl) _ _
theorem k21_52_c : C 21 k21_52 s = O 21 k21_52 0 s := Qc_region (id := 14) (ops := regOps k21_52) (by kernel_rfl) (by kernel_rfl) s
theorem k21_52_0 : O 21 k21_52 0 s = stepV s (some 41) (some { v := (R s 2) }) (O 21 k21_52 1) := oR (by kernel_rfl)
theorem k21_52_1 : O 21 k21_52 1 s = stepV s (some 42) (builtinV Tryz.prog false s.h.get s.h.n .len [22] [(R s 41)]) (O 21 k21_52 2) := oR (by kernel_rfl)
theorem k21_52_2 : O 21 k21_52 2 s = stepV s (some 43) (some { v := (.int .i64 (0)) }) (O 21 k21_52 3) := oR (by kernel_rfl)
theorem k21_52_3 : O 21 k21_52 3 s = some [(.normal, s)] := Qo_end (by kernel_rfl) s
def k21_54 : Code := codeA k21_53
theorem k21_53_c : C 21 k21_53 s = blockV 3 (C 21 k21_54 s) := Qc_block (b := k21_54) (by kernel_rfl) _ _
def k21_55 : Code := codeA k21_54
theorem k21_54_l : C 21 k21_54 s = thenV (C 21 k21_55 s) (C 21 k21_54) := Qc_loop (b := k21_55) (by kernel_rfl) _ _
def k21_56 : Code := codeA k21_55
def k21_57 : Code := codeB k21_55
theorem k21_55_c : C 21 k21_55 s = thenV (C 21 k21_56 s) (C 21 k21_57) := Qc_seq (a := k21_56) (b := k21_57) (by kernel_rfl) _ _
theorem k21_56_c : C 21 k21_56 s = O 21 k21_56 0 s := Qc_region (id := 15) (ops := regOps k21_56) (by kernel_rfl) (by kernel_rfl) s
theorem k21_56_0 : O 21 k21_56 0 s = stepV s (some 44) (val (binV Tryz.prog .lss 3 false false (R s 43) (R s 42))) (O 21 k21_56 1) := oR (by kernel_rfl)
theorem k21_56_1 : O 21 k21_56 1 s = some [(.normal, s)] := Qo_end (by kernel_rfl) s
def k21_58 : Code := codeA k21_57
def k21_59 : Code := codeB k21_57
theorem k21_57_c : C 21 k21_57 s = thenV (C 21 k21_58 s) (C 21 k21_59) := Qc_seq (a := k21_58) (b := k21_59) (by kernel_rfl) _ _
def k21_60 : Code := codeA k21_58
def k21_61 : Code := codeB k21_58
theorem k21_58_c : C 21 k21_58 s = condV (R s 44) (C 21 k21_60) (C 21 k21_61) s := Qc_cond (t := 44) (a := k21_60) (b := k21_61) (by kernel_rfl) _ _
theorem k21_60_c : C 21 k21_60 s = some [(.normal, s)] := Qc_skip (by kernel_rfl) _ _
theorem k21_61_c : C 21 k21_61 s = some [(.exit 3, s)] := Qc_exit (by kernel_rfl) _ _
def k21_62 : Code := codeA k21_59
def k21_63 : Code := codeB k21_59
theorem k21_59_c : C 21 k21_59 s = thenV (C 21 k21_62 s) (C 21 k21_63) := Qc_seq (a := k21_62) (b := k21_63) (by kernel_rfl) _ _
def k21_64 : Code := codeA k21_62
theorem k21_62_c : C 21 k21_62 s = blockV 4 (C 21 k21_64 s) := Qc_block (b := k21_64) (by kernel_rfl) _ _
def k21_65 : Code := codeA k21_64
def k21_66 : Code := codeB k21_64
theorem k21_64_c : C 21 k21_64 s = thenV (C 21 k21_65 s) (C 21 k21_66) := Qc_seq (a := k21_65) (b := k21_66) (by kernel_rfl) _ _
theorem k21_65_c : C 21 k21_65 s = O 21 k21_65 0 s := Qc_region (id := 16) (ops := regOps k21_65) (by kernel_rfl) (by kernel_rfl) s
theorem k21_65_0 : O 21 k21_65 0 s = stepV s (some 45) (val (indexAddr Tryz.prog 22 (R s 41) (R s 43))) (O 21 k21_65 1) := oR (by kernel_rfl)
theorem k21_65_1 : O 21 k21_65 1 s = stepV s (some 46) (xLoad Tryz.prog 42 s.h.get (R s 45)) (O 21 k21_65 2) := oR (by kernel_rfl)
theorem k21_65_2 : O 21 k21_65 2 s = stepV s (some 11) (some { v := .ptr s.h.n 0, nw := [.row 0 [.int .i64 (0), .int .i64 (0)]] }) (O 21 k21_65 3) := oR (by kernel_rfl)
theorem k21_65_3 : O 21 k21_65 3 s = stepV s none (xStore Tryz.prog 42 s.h.get (R s 11) (R s 46)) (O 21 k21_65 4) := oR (by kernel_rfl)
theorem k21_65_4 : O 21 k21_65 4 s = some [(.normal, s)] := Qo_end (by kernel_rfl) s
def k21_67 : Code := codeA k21_66
def k21_68 : Code := codeB k21_66
theorem k21_66_c : C 21 k21_66 s = thenV (C 21 k21_67 s) (C 21 k21_68) := Qc_seq (a := k21_67) (b := k21_68) (by kernel_rfl) _ _
theorem k21_67_c : C 21 k21_67 s = O 21 k21_67 0 s := Qc_region (id := 17) (ops := regOps k21_67) (by kernel_rfl) (by kernel_rfl) s
theorem k21_67_0 : O 21 k21_67 0 s = stepV s (some 47) (some { v := (R s 7) }) (O 21 k21_67 1) := oR (by kernel_rfl)
theorem k21_67_1 : O 21 k21_67 1 s = stepV s (some 48) (xLoad Tryz.prog 42 s.h.get (R s 11)) (O 21 k21_67 2) := oR (by kernel_rfl)
theorem k21_67_2 : O 21 k21_67 2 s = stepV s (some 49) (some { v := (R s 0) }) (O 21 k21_67 3) := oR (by kernel_rfl)
theorem k21_67_3 : O 21 k21_67 3 s = stepV s (some 50) (some { v := (R s 1) }) (O 21 k21_67 4) := oR (by kernel_rfl)
theorem k21_67_4 : O 21 k21_67 4 s = stepV s (some 51) (builtinV Tryz.prog false s.h.get s.h.n .len [22] [(R s 50)]) (O 21 k21_67 5) := oR (by kernel_rfl)
theorem k21_67_5 : O 21 k21_67 5 s = stepV s (some 52) (val (binV Tryz.prog .add 3 false false (R s 49) (R s 51))) (O 21 k21_67 6) := oR (by kernel_rfl)
theorem k21_67_6 : O 21 k21_67 6 s = thenC (some 53) s (callX Tryz.prog hs ks (callOf (R s 47) [(R s 48), (R s 52)]) s.h) (O 21 k21_67 7) := xR (by kernel_rfl)
theorem k21_67_7 : O 21 k21_67 7 s = stepV s (some 54) (xUn .not (R s 53)) (O 21 k21_67 8) := oR (by kernel_rfl)
theorem k21_67_8 : O 21 k21_67 8 s = some [(.normal, s)] := Qo_end (by kernel_rfl) s
def k21_69 : Code := codeA k21_68
def k21_70 : Code := codeB k21_68
theorem k21_68_c : C 21 k21_68 s = condV (R s 54) (C 21 k21_69) (C 21 k21_70) s := Qc_cond (t := 54) (a := k21_69) (b := k21_70) (by kernel_rfl) _ _
def k21_71 : Code := codeA k21_69
def k21_72 : Code := codeB k21_69
theorem k21_69_c : C 21 k21_69 s = thenV (C 21 k21_71 s) (C 21 k21_72) := Qc_seq (a := k21_71) (b := k21_72) (by kernel_rfl) _ _
theorem k21_71_c : C 21 k21_71 s = O 21 k21_71 0 s := Qc_region (id := 18) (ops := regOps k21_71) (by kernel_rfl) (by kernel_rfl) s
theorem k21_71_0 : O 21 k21_71 0 s = stepV s (some 6) (some { v := (.int .i64 (2)) }) (O 21 k21_71 1) := oR (by kernel_rfl)
theorem k21_71_1 : O 21 k21_71 1 s = some [(.normal, s)] := Qo_end (by kernel_rfl) s
theorem k21_72_c : C 21 k21_72 s = some [(.ret, s)] := Qc_ret (by kernel_rfl) _ _
theorem k21_70_c : C 21 k21_70 s = some [(.normal, s)] := Qc_skip (by kernel_rfl) _ _
theorem k21_63_c : C 21 k21_63 s = O 21 k21_63 0 s := Qc_region (id := 19) (ops := regOps k21_63) (by kernel_rfl) (by kernel_rfl) s
theorem k21_63_0 : O 21 k21_63 0 s = stepV s (some 55) (val (binV Tryz.prog .add 3 false true (R s 43) (.int .i64 (1)))) (O 21 k21_63 1) := oR (by kernel_rfl)
theorem k21_63_1 : O 21 k21_63 1 s = stepV s (some 43) (some { v := (R s 55) }) (O 21 k21_63 2) := oR (by kernel_rfl)
theorem k21_63_2 : O 21 k21_63 2 s = some [(.normal, s)] := Qo_end (by kernel_rfl) s
def k21_73 : Code := codeA k21_51
def k21_74 : Code := codeB k21_51
theorem k21_51_c : C 21 k21_51 s = thenV (C 21 k21_73 s) (C 21 k21_74) := Qc_seq (a := k21_73) (b := k21_74) (by kernel_rfl) _ _
theorem k21_73_c : C 21 k21_73 s = O 21 k21_73 0 s := Qc_region (id := 20) (ops := regOps k21_73) (by kernel_rfl) (by kernel_rfl) s
theorem k21_73_0 : O 21 k21_73 0 s = stepV s (some 6) (some { v := (.int .i64 (0)) }) (O 21 k21_73 1) := oR (by kernel_rfl)
theorem k21_73_1 : O 21 k21_73 1 s = some [(.normal, s)] := Qo_end (by kernel_rfl) s
theorem k21_74_c : C 21 k21_74 s = some [(.ret, s)] := Qc_ret (by kernel_rfl) _ _
def k23 : Code := Tryz.f23.body.getD .skip
theorem k23_fun (args : List V) (ha : args.length ≤ 3) (h : H) : (EV Tryz.prog hs ks).call 23 args h = endsV Tryz.prog hs ks Tryz.f23 (C 23 k23 (S 3 (setF args 0 fun _ => undefV) [] h)) := EV_fun Tryz.func23 (by kernel_rfl) (by kernel_rfl) (by decide) rfl ha h
theorem k23_ret (f : Nat → V) (h : H) : endsV Tryz.prog hs ks Tryz.f23 (some [(.ret, S 3 f [] h)]) = resV (resultVs Tryz.prog (S 3 f [] h) [.tmp 2]) h := ends_one (by kernel_rfl) (Or.inl rfl) _ _
theorem k23_nrm (f : Nat → V) (h : H) : endsV Tryz.prog hs ks Tryz.f23 (some [(.normal, S 3 f [] h)]) = resV (resultVs Tryz.prog (S 3 f [] h) [.tmp 2]) h := ends_one (by kernel_rfl) (Or.inr rfl) _ _
def k23_0 : Code := codeA k23
def k23_1 : Code := codeB k23
theorem k23_c : C 23 k23 s = thenV (C 23 k23_0 s) (C 23 k23_1) := Qc_seq (a := k23_0) (b := k23_1) (by kernel_rfl) _ _
theorem k23_0_c : C 23 k23_0 s = O 23 k23_0 0 s := Qc_region (id := 0) (ops := regOps k23_0) (by kernel_rfl) (by kernel_rfl) s
theorem k23_0_0 : O 23 k23_0 0 s = stepV s (some 2) (some { v := (.bool false) }) (O 23 k23_0 1) := oR (by kernel_rfl)
theorem k23_0_1 : O 23 k23_0 1 s = some [(.normal, s)] := Qo_end (by kernel_rfl) s
def k23_2 : Code := codeA k23_1
def k23_3 : Code := codeB k23_1
theorem k23_1_c : C 23 k23_1 s = thenV (C 23 k23_2 s) (C 23 k23_3) := Qc_seq (a := k23_2) (b := k23_3) (by kernel_rfl) _ _
theorem k23_2_c : C 23 k23_2 s = O 23 k23_2 0 s := Qc_region (id := 1) (ops := regOps k23_2) (by kernel_rfl) (by kernel_rfl) s
theorem k23_2_0 : O 23 k23_2 0 s = stepV s (some 2) (some { v := (.bool true) }) (O 23 k23_2 1) := oR (by kernel_rfl)
theorem k23_2_1 : O 23 k23_2 1 s = some [(.normal, s)] := Qo_end (by kernel_rfl) s
theorem k23_3_c : C 23 k23_3 s = some [(.ret, s)] := Qc_ret (by kernel_rfl) _ _
def k24 : Code := Tryz.f24.body.getD .skip
theorem k24_fun (args : List V) (ha : args.length ≤ 25) (h : H) : (EV Tryz.prog hs ks).call 24 args h = endsV Tryz.prog hs ks Tryz.f24 (C 24 k24 (S 25 (setF args 0 fun _ => undefV) [] h)) := EV_fun Tryz.func24 (by kernel_rfl) (by kernel_rfl) (by decide) rfl ha h
theorem k24_ret (f : Nat → V) (h : H) : endsV Tryz.prog hs ks Tryz.f24 (some [(.ret, S 25 f [] h)]) = resV (resultVs Tryz.prog (S 25 f [] h) [.tmp 2]) h := ends_one (by kernel_rfl) (Or.inl rfl) _ _
def k24_0 : Code := codeA k24
def k24_1 : Code := codeB k24
theorem k24_c : C 24 k24 s = thenV (C 24 k24_0 s) (C 24 k24_1) := Qc_seq (a := k24_0) (b := k24_1) (by kernel_rfl) _ _
theorem k24_0_c : C 24 k24_0 s = O 24 k24_0 0 s := Qc_region (id := 0) (ops := regOps k24_0) (by kernel_rfl) (by kernel_rfl) s
theorem k24_0_0 : O 24 k24_0 0 s = stepV s (some 2) (some { v := (.int .i64 (0)) }) (O 24 k24_0 1) := oR (by kernel_rfl)
theorem k24_0_1 : O 24 k24_0 1 s = some [(.normal, s)] := Qo_end (by kernel_rfl) s
def k24_2 : Code := codeA k24_1
def k24_3 : Code := codeB k24_1
theorem k24_1_c : C 24 k24_1 s = thenV (C 24 k24_2 s) (C 24 k24_3) := Qc_seq (a := k24_2) (b := k24_3) (by kernel_rfl) _ _
def k24_4 : Code := codeA k24_2
def k24_5 : Code := codeB k24_2
theorem k24_2_c : C 24 k24_2 s = thenV (C 24 k24_4 s) (C 24 k24_5) := Qc_seq (a := k24_4) (b := k24_5) (by kernel_rfl) _ _
theorem k24_4_c : C 24 k24_4 s = O 24 k24_4 0 s := Qc_region (id := 1) (ops := regOps k24_4) (by kernel_rfl) (by kernel_rfl) s
theorem k24_4_0 : O 24 k24_4 0 s = stepV s (some 5) (some { v := (R s 0) }) (O 24 k24_4 1) := oR (by kernel_rfl)
theorem k24_4_1 : O 24 k24_4 1 s = stepV s (some 6) (builtinV Tryz.prog false s.h.get s.h.n .len [27] [(R s 5)]) (O 24 k24_4 2) := oR (by kernel_rfl)
theorem k24_4_2 : O 24 k24_4 2 s = stepV s (some 7) (val (binV Tryz.prog .lss 3 false true (R s 6) (.int .i64 (1)))) (O 24 k24_4 3) := oR (by kernel_rfl)
theorem k24_4_3 : O 24 k24_4 3 s = some [(.normal, s)] := Qo_end (by kernel_rfl) s
def k24_6 : Code := codeA k24_5
def k24_7 : Code := codeB k24_5
theorem k24_5_c : C 24 k24_5 s = condV (R s 7) (C 24 k24_6) (C 24 k24_7) s := Qc_cond (t := 7) (a := k24_6) (b := k24_7) (by kernel_rfl) _ _
theorem k24_7_c : C 24 k24_7 s = some [(.normal, s)] := Qc_skip (by kernel_rfl) _ _
def k24_8 : Code := codeA k24_3
def k24_9 : Code := codeB k24_3
theorem k24_3_c : C 24 k24_3 s = thenV (C 24 k24_8 s) (C 24 k24_9) := Qc_seq (a := k24_8) (b := k24_9) (by kernel_rfl) _ _
theorem k24_8_c : C 24 k24_8 s = O 24 k24_8 0 s := Qc_region (id := 3) (ops := regOps k24_8) (by kernel_rfl) (by kernel_rfl) s
theorem k24_8_0 : O 24 k24_8 0 s = stepV s (some 9) (some { v := (R s 0) }) (O 24 k24_8 1) := oR (by kernel_rfl)
theorem k24_8_1 : O 24 k24_8 1 s = stepV s (some 10) (val (indexAddr Tryz.prog 27 (R s 9) (.int .i64 (0)))) (O 24 k24_8 2) := oR (by kernel_rfl)
theorem k24_8_2 : O 24 k24_8 2 s = stepV s (some 11) (xLoad Tryz.prog 3 s.h.get (R s 10)) (O 24 k24_8 3) := oR (by kernel_rfl)
theorem k24_8_3 : O 24 k24_8 3 s = stepV s (some 3) (some { v := (R s 11) }) (O 24 k24_8 4) := oR (by kernel_rfl)
theorem k24_8_4 : O 24 k24_8 4 s = some [(.normal, s)] := Qo_end (by kernel_rfl) s
def k24_10 : Code := codeA k24_9
def k24_11 : Code := codeB k24_9
theorem k24_9_c : C 24 k24_9 s = thenV (C 24 k24_10 s) (C 24 k24_11) := Qc_seq (a := k24_10) (b := k24_11) (by kernel_rfl) _ _
def k24_12 : Code := codeA k24_10
def k24_13 : Code := codeB k24_10
theorem k24_10_c : C 24 k24_10 s = thenV (C 24 k24_12 s) (C 24 k24_13) := Qc_seq (a := k24_12) (b := k24_13) (by kernel_rfl) _ _
theorem k24_12_c : C 24 k24_12 s = O 24 k24_12 0 s := Qc_region (id := 4) (ops := regOps k24_12) (by kernel_rfl) (by kernel_rfl) s
theorem k24_12_0 : O 24 k24_12 0 s = stepV s (some 4) (some { v := (.int .i64 (1)) }) (O 24 k24_12 1) := oR (by kernel_rfl)
theorem k24_12_1 : O 24 k24_12 1 s = some [(.normal, s)] := Qo_end (by kernel_rfl) s
def k24_14 : Code := codeA k24_13
theorem k24_13_c : C 24 k24_13 s = blockV 0 (C 24 k24_14 s) := Qc_block (b := k24_14) (by kernel_rfl) _ _
def k24_15 : Code := codeA k24_14
theorem k24_14_l : C 24 k24_14 s = thenV (C 24 k24_15 s) (C 24 k24_14) := Qc_loop (b := k24_15) (by kernel_rfl) _ _
def k24_16 : Code := codeA k24_15
def k24_17 : Code := codeB k24_15
theorem k24_15_c : C 24 k24_15 s = thenV (C 24 k24_16 s) (C 24 k24_17) := Qc_seq (a := k24_16) (b := k24_17) (by kernel_rfl) _ _
def k24_18 : Code := codeA k24_16
def k24_19 : Code := codeB k24_16
theorem k24_16_c : C 24 k24_16 s = thenV (C 24 k24_18 s) (C 24 k24_19) := Qc_seq (a := k24_18) (b := k24_19) (by kernel_rfl) _ _
theorem k24_18_c : C 24 k24_18 s = O 24 k24_18 0 s := Qc_region (id := 5) (ops := regOps k24_18) (by kernel_rfl) (by kernel_rfl) s
theorem k24_18_0 : O 24 k24_18 0 s = stepV s (some 12) (some { v := (R s 4) }) (O 24 k24_18 1) := oR (by kernel_rfl)
theorem k24_18_1 : O 24 k24_18 1 s = stepV s (some 13) (some { v := (R s 0) }) (O 24 k24_18 2) := oR (by kernel_rfl)
theorem k24_18_2 : O 24 k24_18 2 s = stepV s (some 14) (builtinV Tryz.prog false s.h.get s.h.n .len [27] [(R s 13)]) (O 24 k24_18 3) := oR (by kernel_rfl)
theorem k24_18_3 : O 24 k24_18 3 s = stepV s (some 15) (val (binV Tryz.prog .lss 3 false false (R s 12) (R s 14))) (O 24 k24_18 4) := oR (by kernel_rfl)
theorem k24_18_4 : O 24 k24_18 4 s = some [(.normal, s)] := Qo_end (by kernel_rfl) s
def k24_20 : Code := codeA k24_19
def k24_21 : Code := codeB k24_19
theorem k24_19_c : C 24 k24_19 s = condV (R s 15) (C 24 k24_20) (C 24 k24_21) s := Qc_cond (t := 15) (a := k24_20) (b := k24_21) (by kernel_rfl) _ _
theorem k24_20_c : C 24 k24_20 s = some [(.normal, s)] := Qc_skip (by kernel_rfl) _ _
theorem k24_21_c : C 24 k24_21 s = some [(.exit 0, s)] := Qc_exit (by kernel_rfl) _ _
def k24_22 : Code := codeA k24_17
def k24_23 : Code := codeB k24_17
theorem k24_17_c : C 24 k24_17 s = thenV (C 24 k24_22 s) (C 24 k24_23) := Qc_seq (a := k24_22) (b := k24_23) (by kernel_rfl) _ _
def k24_24 : Code := codeA k24_22
theorem k24_22_c : C 24 k24_22 s = blockV 1 (C 24 k24_24 s) := Qc_block (b := k24_24) (by kernel_rfl) _ _
theorem k24_24_c : C 24 k24_24 s = O 24 k24_24 0 s := Qc_region (id := 7) (ops := regOps k24_24) (by kernel_rfl) (by kernel_rfl) s
theorem k24_24_0 : O 24 k24_24 0 s = stepV s (some 18) (some { v := (R s 3) }) (O 24 k24_24 1) := oR (by kernel_rfl)
theorem k24_24_1 : O 24 k24_24 1 s = stepV s (some 19) (some { v := (R s 0) }) (O 24 k24_24 2) := oR (by kernel_rfl)
theorem k24_24_2 : O 24 k24_24 2 s = stepV s (some 20) (some { v := (R s 4) }) (O 24 k24_24 3) := oR (by kernel_rfl)
theorem k24_24_3 : O 24 k24_24 3 s = stepV s (some 21) (val (indexAddr Tryz.prog 27 (R s 19) (R s 20))) (O 24 k24_24 4) := oR (by kernel_rfl)
theorem k24_24_4 : O 24 k24_24 4 s = stepV s (some 22) (xLoad Tryz.prog 3 s.h.get (R s 21)) (O 24 k24_24 5) := oR (by kernel_rfl)
theorem k24_24_5 : O 24 k24_24 5 s = stepV s (some 23) (builtinV Tryz.prog false s.h.get s.h.n .min [3, 3] [(R s 18), (R s 22)]) (O 24 k24_24 6) := oR (by kernel_rfl)
theorem k24_24_6 : O 24 k24_24 6 s = stepV s (some 3) (some { v := (R s 23) }) (O 24 k24_24 7) := oR (by kernel_rfl)
theorem k24_24_7 : O 24 k24_24 7 s = some [(.normal, s)] := Qo_end (by kernel_rfl) s
theorem k24_23_c : C 24 k24_23 s = O 24 k24_23 0 s := Qc_region (id := 6) (ops := regOps k24_23) (by kernel_rfl) (by kernel_rfl) s
theorem k24_23_0 : O 24 k24_23 0 s = stepV s (some 16) (some { v := (R s 4) }) (O 24 k24_23 1) := oR (by kernel_rfl)
theorem k24_23_1 : O 24 k24_23 1 s = stepV s (some 17) (val (binV Tryz.prog .add 3 false true (R s 16) (.int .i64 (1)))) (O 24 k24_23 2) := oR (by kernel_rfl)
theorem k24_23_2 : O 24 k24_23 2 s = stepV s (some 4) (some { v := (R s 17) }) (O 24 k24_23 3) := oR (by kernel_rfl)
theorem k24_23_3 : O 24 k24_23 3 s = some [(.normal, s)] := Qo_end (by kernel_rfl) s
def k24_25 : Code := codeA k24_11
def k24_26 : Code := codeB k24_11
theorem k24_11_c : C 24 k24_11 s = thenV (C 24 k24_25 s) (C 24 k24_26) := Qc_seq (a := k24_25) (b := k24_26) (by kernel_rfl) _ _
theorem k24_25_c : C 24 k24_25 s = O 24 k24_25 0 s := Qc_region (id := 8) (ops := regOps k24_25) (by kernel_rfl) (by kernel_rfl) s
theorem k24_25_0 : O 24 k24_25 0 s = stepV s (some 24) (some { v := (R s 3) }) (O 24 k24_25 1) := oR (by kernel_rfl)
theorem k24_25_1 : O 24 k24_25 1 s = stepV s (some 2) (some { v := (R s 24) }) (O 24 k24_25 2) := oR (by kernel_rfl)
theorem k24_25_2 : O 24 k24_25 2 s = some [(.normal, s)] := Qo_end (by kernel_rfl) s
theorem k24_26_c : C 24 k24_26 s = some [(.ret, s)] := Qc_ret (by kernel_rfl) _ _
def k47 : Code := Tryz.f47.body.getD .skip
theorem k47_fun (args : List V) (ha : args.length ≤ 20) (h : H) : (EV Tryz.prog hs ks).call 47 args h = endsV Tryz.prog hs ks Tryz.f47 (C 47 k47 (S 20 (setF args 0 fun _ => undefV) [] h)) := EV_fun Tryz.func47 (by kernel_rfl) (by kernel_rfl) (by decide) rfl ha h
theorem k47_ret (f : Nat → V) (h : H) : endsV Tryz.prog hs ks Tryz.f47 (some [(.ret, S 20 f [] h)]) = resV (resultVs Tryz.prog (S 20 f [] h) [.tmp 4]) h := ends_one (by kernel_rfl) (Or.inl rfl) _ _
def k47_0 : Code := codeA k47
def k47_1 : Code := codeB k47
theorem k47_c : C 47 k47 s = thenV (C 47 k47_0 s) (C 47 k47_1) := Qc_seq (a := k47_0) (b := k47_1) (by kernel_rfl) _ _
theorem k47_0_c : C 47 k47_0 s = O 47 k47_0 0 s := Qc_region (id := 0) (ops := regOps k47_0) (by kernel_rfl) (by kernel_rfl) s
theorem k47_0_0 : O 47 k47_0 0 s = stepV s (some 2) (some { v := .ptr s.h.n 0, nw := [.row 0 (V.cells (R s 0))] }) (O 47 k47_0 1) := oR (by kernel_rfl)
theorem k47_0_1 : O 47 k47_0 1 s = stepV s (some 4) (some { v := (.bool false) }) (O 47 k47_0 2) := oR (by kernel_rfl)
theorem k47_0_2 : O 47 k47_0 2 s = some [(.normal, s)] := Qo_end (by kernel_rfl) s
def k47_2 : Code := codeA k47_1
def k47_3 : Code := codeB k47_1
theorem k47_1_c : C 47 k47_1 s = thenV (C 47 k47_2 s) (C 47 k47_3) := Qc_seq (a := k47_2) (b := k47_3) (by kernel_rfl) _ _
theorem k47_2_c : C 47 k47_2 s = O 47 k47_2 0 s := Qc_region (id := 1) (ops := regOps k47_2) (by kernel_rfl) (by kernel_rfl) s
theorem k47_2_0 : O 47 k47_2 0 s = stepV s (some 5) (val (indexAddr Tryz.prog 42 (R s 2) (.int .i64 (0)))) (O 47 k47_2 1) := oR (by kernel_rfl)
theorem k47_2_1 : O 47 k47_2 1 s = stepV s (some 6) (xLoad Tryz.prog 3 s.h.get (R s 5)) (O 47 k47_2 2) := oR (by kernel_rfl)
theorem k47_2_2 : O 47 k47_2 2 s = stepV s (some 7) (val (indexAddr Tryz.prog 42 (R s 2) (.int .i64 (1)))) (O 47 k47_2 3) := oR (by kernel_rfl)
theorem k47_2_3 : O 47 k47_2 3 s = stepV s (some 8) (xLoad Tryz.prog 3 s.h.get (R s 7)) (O 47 k47_2 4) := oR (by kernel_rfl)
theorem k47_2_4 : O 47 k47_2 4 s = stepV s (some 9) (builtinV Tryz.prog false s.h.get s.h.n .min [3, 3] [(R s 6), (R s 8)]) (O 47 k47_2 5) := oR (by kernel_rfl)
theorem k47_2_5 : O 47 k47_2 5 s = stepV s (some 10) (val (binV Tryz.prog .geq 3 false true (R s 9) (.int .i64 (0)))) (O 47 k47_2 6) := oR (by kernel_rfl)
theorem k47_2_6 : O 47 k47_2 6 s = stepV s (some 11) (some { v := (R s 10) }) (O 47 k47_2 7) := oR (by kernel_rfl)
theorem k47_2_7 : O 47 k47_2 7 s = if wantB (R s 11) true = true then stepV s (some 12) (val (indexAddr Tryz.prog 42 (R s 2) (.int .i64 (0)))) (O 47 k47_2 8) else O 47 k47_2 8 (skipS s (some 12)) := oI (by kernel_rfl)
theorem k47_2_8 : O 47 k47_2 8 s = if wantB (R s 11) true = true then stepV s (some 13) (xLoad Tryz.prog 3 s.h.get (R s 12)) (O 47 k47_2 9) else O 47 k47_2 9 (skipS s (some 13)) := oI (by kernel_rfl)
theorem k47_2_9 : O 47 k47_2 9 s = if wantB (R s 11) true = true then stepV s (some 14) (val (indexAddr Tryz.prog 42 (R s 2) (.int .i64 (1)))) (O 47 k47_2 10) else O 47 k47_2 10 (skipS s (some 14)) := oI (by kernel_rfl)
theorem k47_2_10 : O 47 k47_2 10 s = if wantB (R s 11) true = true then stepV s (some 15) (xLoad Tryz.prog 3 s.h.get (R s 14)) (O 47 k47_2 11) else O 47 k47_2 11 (skipS s (some 15)) := oI (by kernel_rfl)
theorem k47_2_11 : O 47 k47_2 11 s = if wantB (R s 11) true = true then stepV s (some 16) (builtinV Tryz.prog false s.h.get s.h.n .max [3, 3] [(R s 13), (R s 15)]) (O 47 k47_2 12) else O 47 k47_2 12 (skipS s (some 16)) := oI (by kernel_rfl)
theorem k47_2_12 : O 47 k47_2 12 s = if wantB (R s 11) true = true then stepV s (some 17) (some { v := (R s 1) }) (O 47 k47_2 13) else O 47 k47_2 13 (skipS s (some 17)) := oI (by kernel_rfl)
theorem k47_2_13 : O 47 k47_2 13 s = if wantB (R s 11) true = true then stepV s (some 18) (val (binV Tryz.prog .lss 3 false false (R s 16) (R s 17))) (O 47 k47_2 14) else O 47 k47_2 14 (skipS s (some 18)) := oI (by kernel_rfl)
theorem k47_2_14 : O 47 k47_2 14 s = stepV s (some 19) (xPick (R s 11) (R s 18) (.bool false)) (O 47 k47_2 15) := oR (by kernel_rfl)
theorem k47_2_15 : O 47 k47_2 15 s = stepV s (some 4) (some { v := (R s 19) }) (O 47 k47_2 16) := oR (by kernel_rfl)
theorem k47_2_16 : O 47 k47_2 16 s = some [(.normal, s)] := Qo_end (by kernel_rfl) s
theorem k47_3_c : C 47 k47_3 s = some [(.ret, s)] := Qc_ret (by kernel_rfl) _ _
end Go.Proofs.YtdlaladdeelegaaGreat.Cg
end
noncomputable section
namespace Go.Proofs.YtdlaladdeelegaaGreat.Cg
open Go Go.Ae
variable (dn : List (Nat × Foot)) (s : St)
def k48 : Code := Tryz.f48.body.getD .skip
theorem k48_fun (args : List V) (ha : args.length ≤ 58) (h : H) : (EV Tryz.prog hs ks).call 48 args h = endsV Tryz.prog hs ks Tryz.f48 (C 48 k48 (S 58 (setF args 0 fun _ => undefV) [] h)) := EV_fun Tryz.func48 (by kernel_rfl) (by kernel_rfl) (by decide) rfl ha h
theorem k48_nrm (f : Nat → V) (h : H) : endsV Tryz.prog hs ks Tryz.f48 (some [(.normal, S 58 f [] h)]) = resV (resultVs Tryz.prog (S 58 f [] h) []) h := ends_one (by kernel_rfl) (Or.inr rfl) _ _
def k48_0 : Code := codeA k48
def k48_1 : Code := codeB k48
theorem k48_c : C 48 k48 s = thenV (C 48 k48_0 s) (C 48 k48_1) := Qc_seq (a := k48_0) (b := k48_1) (by kernel_rfl) _ _
def k48_0_bef : List Nat := [0, 1, 3, 7, 0, 0, 32, 96, 224, 496, 1023, 2047, 0, 8191]
theorem k48_0_c : C 48 k48_0 s = D 48 k48_0 k48_0_bef 0 [] s := Qc_draw (id := 0) (ops := regOps k48_0) (by kernel_rfl) (by kernel_rfl) (by kernel_rfl) (by kernel_rfl) s
theorem k48_0_0 : D 48 k48_0 k48_0_bef 0 dn s = stepD s (some 8) 0 k48_0_bef dn (some { v := (R s 0) }) (D 48 k48_0 k48_0_bef 1) := dR (by kernel_rfl)
theorem k48_0_1 : D 48 k48_0 k48_0_bef 1 dn s = stepD s (some 9) 1 k48_0_bef dn (xNilCheck Tryz.prog (R s 8)) (D 48 k48_0 k48_0_bef 2) := dR (by kernel_rfl)
theorem k48_0_2 : D 48 k48_0 k48_0_bef 2 dn s = stepD s (some 10) 2 k48_0_bef dn (val (addrAdd (R s 9) 1)) (D 48 k48_0 k48_0_bef 3) := dR (by kernel_rfl)
theorem k48_0_3 : D 48 k48_0 k48_0_bef 3 dn s = stepD s (some 11) 3 k48_0_bef dn (xLoad Tryz.prog 22 s.h.get (R s 10)) (D 48 k48_0 k48_0_bef 4) := dR (by kernel_rfl)
theorem k48_0_4 : D 48 k48_0 k48_0_bef 4 dn s = stepD s (some 12) 4 k48_0_bef dn (some { v := (R s 1) }) (D 48 k48_0 k48_0_bef 5) := dR (by kernel_rfl)
theorem k48_0_5 : D 48 k48_0 k48_0_bef 5 dn s = stepD s (some 13) 5 k48_0_bef dn (some { v := (R s 0) }) (D 48 k48_0 k48_0_bef 6) := dR (by kernel_rfl)
theorem k48_0_6 : D 48 k48_0 k48_0_bef 6 dn s = stepD s (some 14) 6 k48_0_bef dn (xNilCheck Tryz.prog (R s 13)) (D 48 k48_0 k48_0_bef 7) := dR (by kernel_rfl)
theorem k48_0_7 : D 48 k48_0 k48_0_bef 7 dn s = stepD s (some 15) 7 k48_0_bef dn (val (addrAdd (R s 14) 0)) (D 48 k48_0 k48_0_bef 8) := dR (by kernel_rfl)
theorem k48_0_8 : D 48 k48_0 k48_0_bef 8 dn s = stepD s (some 16) 8 k48_0_bef dn (xLoad Tryz.prog 3 s.h.get (R s 15)) (D 48 k48_0 k48_0_bef 9) := dR (by kernel_rfl)
theorem k48_0_9 : D 48 k48_0 k48_0_bef 9 dn s = stepD s (some 17) 9 k48_0_bef dn (val (binV Tryz.prog .sub 3 false false (R s 12) (R s 16))) (D 48 k48_0 k48_0_bef 10) := dR (by kernel_rfl)
theorem k48_0_10 : D 48 k48_0 k48_0_bef 10 dn s = stepD s (some 18) 10 k48_0_bef dn (val (indexAddr Tryz.prog 22 (R s 11) (R s 17))) (D 48 k48_0 k48_0_bef 11) := dR (by kernel_rfl)
theorem k48_0_11 : D 48 k48_0 k48_0_bef 11 dn s = stepD s (some 19) 11 k48_0_bef dn (xLoad Tryz.prog 42 s.h.get (R s 18)) (D 48 k48_0 k48_0_bef 12) := dR (by kernel_rfl)
theorem k48_0_12 : D 48 k48_0 k48_0_bef 12 dn s = stepD s (some 4) 12 k48_0_bef dn (some { v := .ptr s.h.n 0, nw := [.row 0 [.int .i64 (0), .int .i64 (0)]] }) (D 48 k48_0 k48_0_bef 13) := dR (by kernel_rfl)
theorem k48_0_13 : D 48 k48_0 k48_0_bef 13 dn s = stepD s none 13 k48_0_bef dn (xStore Tryz.prog 42 s.h.get (R s 4) (R s 19)) (D 48 k48_0 k48_0_bef 14) := dR (by kernel_rfl)
theorem k48_0_14 : D 48 k48_0 k48_0_bef 14 dn s = some [(.normal, s)] := Qd_end (by kernel_rfl) dn s
def k48_2 : Code := codeA k48_1
def k48_3 : Code := codeB k48_1
theorem k48_1_c : C 48 k48_1 s = thenV (C 48 k48_2 s) (C 48 k48_3) := Qc_seq (a := k48_2) (b := k48_3) (by kernel_rfl) _ _
def k48_2_bef : List Nat := [0, 1, 3, 7, 0, 16, 63, 127, 0, 256, 768, 1792, 0, 4096, 16128, 32512, 65535, 0, 262143]
theorem k48_2_c : C 48 k48_2 s = D 48 k48_2 k48_2_bef 0 [] s := Qc_draw (id := 1) (ops := regOps k48_2) (by kernel_rfl) (by kernel_rfl) (by kernel_rfl) (by kernel_rfl) s
theorem k48_2_0 : D 48 k48_2 k48_2_bef 0 dn s = stepD s (some 20) 0 k48_2_bef dn (some { v := (R s 0) }) (D 48 k48_2 k48_2_bef 1) := dR (by kernel_rfl)
theorem k48_2_1 : D 48 k48_2 k48_2_bef 1 dn s = stepD s (some 21) 1 k48_2_bef dn (xNilCheck Tryz.prog (R s 20)) (D 48 k48_2 k48_2_bef 2) := dR (by kernel_rfl)
theorem k48_2_2 : D 48 k48_2 k48_2_bef 2 dn s = stepD s (some 22) 2 k48_2_bef dn (val (addrAdd (R s 21) 2)) (D 48 k48_2 k48_2_bef 3) := dR (by kernel_rfl)
theorem k48_2_3 : D 48 k48_2 k48_2_bef 3 dn s = stepD s (some 23) 3 k48_2_bef dn (xLoad Tryz.prog 27 s.h.get (R s 22)) (D 48 k48_2 k48_2_bef 4) := dR (by kernel_rfl)
theorem k48_2_4 : D 48 k48_2 k48_2_bef 4 dn s = stepD s (some 24) 4 k48_2_bef dn (val (indexAddr Tryz.prog 42 (R s 4) (.int .i64 (0)))) (D 48 k48_2 k48_2_bef 5) := dR (by kernel_rfl)
theorem k48_2_5 : D 48 k48_2 k48_2_bef 5 dn s = stepD s (some 25) 5 k48_2_bef dn (xLoad Tryz.prog 3 s.h.get (R s 24)) (D 48 k48_2 k48_2_bef 6) := dR (by kernel_rfl)
theorem k48_2_6 : D 48 k48_2 k48_2_bef 6 dn s = stepD s (some 26) 6 k48_2_bef dn (val (indexAddr Tryz.prog 27 (R s 23) (R s 25))) (D 48 k48_2 k48_2_bef 7) := dR (by kernel_rfl)
theorem k48_2_7 : D 48 k48_2 k48_2_bef 7 dn s = stepD s (some 27) 7 k48_2_bef dn (xLoad Tryz.prog 3 s.h.get (R s 26)) (D 48 k48_2 k48_2_bef 8) := dR (by kernel_rfl)
theorem k48_2_8 : D 48 k48_2 k48_2_bef 8 dn s = stepD s (some 28) 8 k48_2_bef dn (some { v := (R s 0) }) (D 48 k48_2 k48_2_bef 9) := dR (by kernel_rfl)
theorem k48_2_9 : D 48 k48_2 k48_2_bef 9 dn s = stepD s (some 29) 9 k48_2_bef dn (xNilCheck Tryz.prog (R s 28)) (D 48 k48_2 k48_2_bef 10) := dR (by kernel_rfl)
theorem k48_2_10 : D 48 k48_2 k48_2_bef 10 dn s = stepD s (some 30) 10 k48_2_bef dn (val (addrAdd (R s 29) 2)) (D 48 k48_2 k48_2_bef 11) := dR (by kernel_rfl)
theorem k48_2_11 : D 48 k48_2 k48_2_bef 11 dn s = stepD s (some 31) 11 k48_2_bef dn (xLoad Tryz.prog 27 s.h.get (R s 30)) (D 48 k48_2 k48_2_bef 12) := dR (by kernel_rfl)
theorem k48_2_12 : D 48 k48_2 k48_2_bef 12 dn s = stepD s (some 32) 12 k48_2_bef dn (val (indexAddr Tryz.prog 42 (R s 4) (.int .i64 (1)))) (D 48 k48_2 k48_2_bef 13) := dR (by kernel_rfl)
theorem k48_2_13 : D 48 k48_2 k48_2_bef 13 dn s = stepD s (some 33) 13 k48_2_bef dn (xLoad Tryz.prog 3 s.h.get (R s 32)) (D 48 k48_2 k48_2_bef 14) := dR (by kernel_rfl)
theorem k48_2_14 : D 48 k48_2 k48_2_bef 14 dn s = stepD s (some 34) 14 k48_2_bef dn (val (indexAddr Tryz.prog 27 (R s 31) (R s 33))) (D 48 k48_2 k48_2_bef 15) := dR (by kernel_rfl)
theorem k48_2_15 : D 48 k48_2 k48_2_bef 15 dn s = stepD s (some 35) 15 k48_2_bef dn (xLoad Tryz.prog 3 s.h.get (R s 34)) (D 48 k48_2 k48_2_bef 16) := dR (by kernel_rfl)
theorem k48_2_16 : D 48 k48_2 k48_2_bef 16 dn s = stepD s (some 36) 16 k48_2_bef dn (val (build Tryz.prog 170 [(0, (R s 27)), (1, (R s 35))])) (D 48 k48_2 k48_2_bef 17) := dR (by kernel_rfl)
theorem k48_2_17 : D 48 k48_2 k48_2_bef 17 dn s = stepD s (some 5) 17 k48_2_bef dn (some { v := .ptr s.h.n 0, nw := [.row 0 [.int .i64 (0), .int .i64 (0)]] }) (D 48 k48_2 k48_2_bef 18) := dR (by kernel_rfl)
theorem k48_2_18 : D 48 k48_2 k48_2_bef 18 dn s = stepD s none 18 k48_2_bef dn (xStore Tryz.prog 170 s.h.get (R s 5) (R s 36)) (D 48 k48_2 k48_2_bef 19) := dR (by kernel_rfl)
theorem k48_2_19 : D 48 k48_2 k48_2_bef 19 dn s = some [(.normal, s)] := Qd_end (by kernel_rfl) dn s
def k48_4 : Code := codeA k48_3
def k48_5 : Code := codeB k48_3
theorem k48_3_c : C 48 k48_3 s = thenV (C 48 k48_4 s) (C 48 k48_5) := Qc_seq (a := k48_4) (b := k48_5) (by kernel_rfl) _ _
def k48_4_bef : List Nat := [0, 1, 3, 7, 0, 31, 63, 127, 127, 255, 1023]
theorem k48_4_c : C 48 k48_4 s = D 48 k48_4 k48_4_bef 0 [] s := Qc_draw (id := 2) (ops := regOps k48_4) (by kernel_rfl) (by kernel_rfl) (by kernel_rfl) (by kernel_rfl) s
theorem k48_4_0 : D 48 k48_4 k48_4_bef 0 dn s = stepD s (some 38) 0 k48_4_bef dn (some { v := (R s 0) }) (D 48 k48_4 k48_4_bef 1) := dR (by kernel_rfl)
theorem k48_4_1 : D 48 k48_4 k48_4_bef 1 dn s = stepD s (some 39) 1 k48_4_bef dn (xNilCheck Tryz.prog (R s 38)) (D 48 k48_4 k48_4_bef 2) := dR (by kernel_rfl)
theorem k48_4_2 : D 48 k48_4 k48_4_bef 2 dn s = stepD s (some 40) 2 k48_4_bef dn (val (addrAdd (R s 39) 5)) (D 48 k48_4 k48_4_bef 3) := dR (by kernel_rfl)
theorem k48_4_3 : D 48 k48_4 k48_4_bef 3 dn s = stepD s (some 41) 3 k48_4_bef dn (xLoad Tryz.prog 79 s.h.get (R s 40)) (D 48 k48_4 k48_4_bef 4) := dR (by kernel_rfl)
theorem k48_4_4 : D 48 k48_4 k48_4_bef 4 dn s = stepD s (some 42) 4 k48_4_bef dn (xLoad Tryz.prog 170 s.h.get (R s 5)) (D 48 k48_4 k48_4_bef 5) := dR (by kernel_rfl)
theorem k48_4_5 : D 48 k48_4 k48_4_bef 5 dn s = stepD s (some 43) 5 k48_4_bef dn (lookup Tryz.prog s.h.get 79 (R s 41) (R s 42) true) (D 48 k48_4 k48_4_bef 6) := dR (by kernel_rfl)
theorem k48_4_6 : D 48 k48_4 k48_4_bef 6 dn s = stepD s (some 37) 6 k48_4_bef dn (some { v := (R s 43) }) (D 48 k48_4 k48_4_bef 7) := dR (by kernel_rfl)
theorem k48_4_7 : D 48 k48_4 k48_4_bef 7 dn s = stepD s (some 44) 7 k48_4_bef dn (xExtract (R s 37) 0) (D 48 k48_4 k48_4_bef 8) := dR (by kernel_rfl)
theorem k48_4_8 : D 48 k48_4 k48_4_bef 8 dn s = stepD s (some 45) 8 k48_4_bef dn (xExtract (R s 37) 1) (D 48 k48_4 k48_4_bef 9) := dR (by kernel_rfl)
theorem k48_4_9 : D 48 k48_4 k48_4_bef 9 dn s = stepD s (some 6) 9 k48_4_bef dn (some { v := (R s 44) }) (D 48 k48_4 k48_4_bef 10) := dR (by kernel_rfl)
theorem k48_4_10 : D 48 k48_4 k48_4_bef 10 dn s = stepD s (some 7) 10 k48_4_bef dn (some { v := (R s 45) }) (D 48 k48_4 k48_4_bef 11) := dR (by kernel_rfl)
theorem k48_4_11 : D 48 k48_4 k48_4_bef 11 dn s = some [(.normal, s)] := Qd_end (by kernel_rfl) dn s
def k48_6 : Code := codeA k48_5
def k48_7 : Code := codeB k48_5
theorem k48_5_c : C 48 k48_5 s = thenV (C 48 k48_6 s) (C 48 k48_7) := Qc_seq (a := k48_6) (b := k48_7) (by kernel_rfl) _ _
theorem k48_6_c : C 48 k48_6 s = O 48 k48_6 0 s := Qc_region (id := 3) (ops := regOps k48_6) (by kernel_rfl) (by kernel_rfl) s
theorem k48_6_0 : O 48 k48_6 0 s = stepV s (some 46) (some { v := (R s 7) }) (O 48 k48_6 1) := oR (by kernel_rfl)
theorem k48_6_1 : O 48 k48_6 1 s = some [(.normal, s)] := Qo_end (by kernel_rfl) s
def k48_8 : Code := codeA k48_7
def k48_9 : Code := codeB k48_7
theorem k48_7_c : C 48 k48_7 s = condV (R s 46) (C 48 k48_8) (C 48 k48_9) s := Qc_cond (t := 46) (a := k48_8) (b := k48_9) (by kernel_rfl) _ _
theorem k48_8_c : C 48 k48_8 s = O 48 k48_8 0 s := Qc_region (id := 4) (ops := regOps k48_8) (by kernel_rfl) (by kernel_rfl) s
theorem k48_8_0 : O 48 k48_8 0 s = stepV s (some 47) (some { v := (R s 0) }) (O 48 k48_8 1) := oR (by kernel_rfl)
theorem k48_8_1 : O 48 k48_8 1 s = stepV s (some 48) (some { v := (R s 1) }) (O 48 k48_8 2) := oR (by kernel_rfl)
theorem k48_8_2 : O 48 k48_8 2 s = stepV s (some 49) (some { v := (R s 6) }) (O 48 k48_8 3) := oR (by kernel_rfl)
theorem k48_8_3 : O 48 k48_8 3 s = stepV s (some 50) (val (build Tryz.prog 126 [(0, (R s 48)), (1, (R s 49)), (2, (.int .i64 (-1)))])) (O 48 k48_8 4) := oR (by kernel_rfl)
theorem k48_8_4 : O 48 k48_8 4 s = thenC (some 51) s (callS Tryz.prog hs ks 49 [(R s 47), (R s 50)] s.h) (O 48 k48_8 5) := cR (by kernel_rfl)
theorem k48_8_5 : O 48 k48_8 5 s = some [(.normal, s)] := Qo_end (by kernel_rfl) s
def k48_9_bef : List Nat := [0, 1, 3, 7, 0, 0, 63]
theorem k48_9_c : C 48 k48_9 s = D 48 k48_9 k48_9_bef 0 [] s := Qc_draw (id := 5) (ops := regOps k48_9) (by kernel_rfl) (by kernel_rfl) (by kernel_rfl) (by kernel_rfl) s
theorem k48_9_0 : D 48 k48_9 k48_9_bef 0 dn s = stepD s (some 52) 0 k48_9_bef dn (some { v := (R s 0) }) (D 48 k48_9 k48_9_bef 1) := dR (by kernel_rfl)
theorem k48_9_1 : D 48 k48_9 k48_9_bef 1 dn s = stepD s (some 53) 1 k48_9_bef dn (xNilCheck Tryz.prog (R s 52)) (D 48 k48_9 k48_9_bef 2) := dR (by kernel_rfl)
theorem k48_9_2 : D 48 k48_9 k48_9_bef 2 dn s = stepD s (some 54) 2 k48_9_bef dn (val (addrAdd (R s 53) 5)) (D 48 k48_9 k48_9_bef 3) := dR (by kernel_rfl)
theorem k48_9_3 : D 48 k48_9 k48_9_bef 3 dn s = stepD s (some 55) 3 k48_9_bef dn (xLoad Tryz.prog 79 s.h.get (R s 54)) (D 48 k48_9 k48_9_bef 4) := dR (by kernel_rfl)
theorem k48_9_4 : D 48 k48_9 k48_9_bef 4 dn s = stepD s (some 56) 4 k48_9_bef dn (xLoad Tryz.prog 170 s.h.get (R s 5)) (D 48 k48_9 k48_9_bef 5) := dR (by kernel_rfl)
theorem k48_9_5 : D 48 k48_9 k48_9_bef 5 dn s = stepD s (some 57) 5 k48_9_bef dn (some { v := (R s 1) }) (D 48 k48_9 k48_9_bef 6) := dR (by kernel_rfl)
theorem k48_9_6 : D 48 k48_9 k48_9_bef 6 dn s = stepD s none 6 k48_9_bef dn (mapUpdate Tryz.prog s.h.get 79 (R s 55) (R s 56) (R s 57)) (D 48 k48_9 k48_9_bef 7) := dR (by kernel_rfl)
theorem k48_9_7 : D 48 k48_9 k48_9_bef 7 dn s = some [(.normal, s)] := Qd_end (by kernel_rfl) dn s
def k84 : Code := Tryz.f84.body.getD .skip
theorem k84_fun (args : List V) (ha : args.length ≤ 47) (h : H) : (EV Tryz.prog hs ks).call 84 args h = endsV Tryz.prog hs ks Tryz.f84 (C 84 k84 (S 47 (setF args 0 fun _ => undefV) [] h)) := EV_fun Tryz.func84 (by kernel_rfl) (by kernel_rfl) (by decide) rfl ha h
theorem k84_nrm (f : Nat → V) (h : H) : endsV Tryz.prog hs ks Tryz.f84 (some [(.normal, S 47 f [] h)]) = resV (resultVs Tryz.prog (S 47 f [] h) []) h := ends_one (by kernel_rfl) (Or.inr rfl) _ _
def k84_0 : Code := codeA k84
def k84_1 : Code := codeB k84
theorem k84_c : C 84 k84 s = thenV (C 84 k84_0 s) (C 84 k84_1) := Qc_seq (a := k84_0) (b := k84_1) (by kernel_rfl) _ _
theorem k84_0_c : C 84 k84_0 s = O 84 k84_0 0 s := Qc_region (id := 0) (ops := regOps k84_0) (by kernel_rfl) (by kernel_rfl) s
theorem k84_0_0 : O 84 k84_0 0 s = stepV s (some 3) (some { v := .ptr s.h.n 0, nw := [.row 0 (V.cells (R s 1))] }) (O 84 k84_0 1) := oR (by kernel_rfl)
theorem k84_0_1 : O 84 k84_0 1 s = some [(.normal, s)] := Qo_end (by kernel_rfl) s
def k84_2 : Code := codeA k84_1
def k84_3 : Code := codeB k84_1
theorem k84_1_c : C 84 k84_1 s = thenV (C 84 k84_2 s) (C 84 k84_3) := Qc_seq (a := k84_2) (b := k84_3) (by kernel_rfl) _ _
def k84_2_bef : List Nat := [0, 1, 0, 4, 0, 0, 35, 111, 255]
theorem k84_2_c : C 84 k84_2 s = D 84 k84_2 k84_2_bef 0 [] s := Qc_draw (id := 1) (ops := regOps k84_2) (by kernel_rfl) (by kernel_rfl) (by kernel_rfl) (by kernel_rfl) s
theorem k84_2_0 : D 84 k84_2 k84_2_bef 0 dn s = stepD s (some 9) 0 k84_2_bef dn (val (addrAdd (R s 3) 0)) (D 84 k84_2 k84_2_bef 1) := dR (by kernel_rfl)
theorem k84_2_1 : D 84 k84_2 k84_2_bef 1 dn s = stepD s (some 10) 1 k84_2_bef dn (xLoad Tryz.prog 3 s.h.get (R s 9)) (D 84 k84_2 k84_2_bef 2) := dR (by kernel_rfl)
theorem k84_2_2 : D 84 k84_2 k84_2_bef 2 dn s = stepD s (some 11) 2 k84_2_bef dn (val (addrAdd (R s 3) 1)) (D 84 k84_2 k84_2_bef 3) := dR (by kernel_rfl)
theorem k84_2_3 : D 84 k84_2 k84_2_bef 3 dn s = stepD s (some 12) 3 k84_2_bef dn (xLoad Tryz.prog 3 s.h.get (R s 11)) (D 84 k84_2 k84_2_bef 4) := dR (by kernel_rfl)
theorem k84_2_4 : D 84 k84_2 k84_2_bef 4 dn s = stepD s (some 13) 4 k84_2_bef dn (xLoad Tryz.prog 126 s.h.get (R s 3)) (D 84 k84_2 k84_2_bef 5) := dR (by kernel_rfl)
theorem k84_2_5 : D 84 k84_2 k84_2_bef 5 dn s = stepD s (some 6) 5 k84_2_bef dn (some { v := .ptr s.h.n 0, nw := [.row 0 [.int .i64 (0), .int .i64 (0), .int .i64 (0)]] }) (D 84 k84_2 k84_2_bef 6) := dR (by kernel_rfl)
theorem k84_2_6 : D 84 k84_2 k84_2_bef 6 dn s = stepD s (some 4) 6 k84_2_bef dn (some { v := (R s 10) }) (D 84 k84_2 k84_2_bef 7) := dR (by kernel_rfl)
theorem k84_2_7 : D 84 k84_2 k84_2_bef 7 dn s = stepD s (some 5) 7 k84_2_bef dn (some { v := (R s 12) }) (D 84 k84_2 k84_2_bef 8) := dR (by kernel_rfl)
theorem k84_2_8 : D 84 k84_2 k84_2_bef 8 dn s = stepD s none 8 k84_2_bef dn (xStore Tryz.prog 126 s.h.get (R s 6) (R s 13)) (D 84 k84_2 k84_2_bef 9) := dR (by kernel_rfl)
theorem k84_2_9 : D 84 k84_2 k84_2_bef 9 dn s = some [(.normal, s)] := Qd_end (by kernel_rfl) dn s
def k84_4 : Code := codeA k84_3
theorem k84_3_c : C 84 k84_3 s = blockV 0 (C 84 k84_4 s) := Qc_block (b := k84_4) (by kernel_rfl) _ _
def k84_5 : Code := codeA k84_4
theorem k84_4_l : C 84 k84_4 s = thenV (C 84 k84_5 s) (C 84 k84_4) := Qc_loop (b := k84_5) (by kernel_rfl) _ _
def k84_6 : Code := codeA k84_5
def k84_7 : Code := codeB k84_5
theorem k84_5_c : C 84 k84_5 s = thenV (C 84 k84_6 s) (C 84 k84_7) := Qc_seq (a := k84_6) (b := k84_7) (by kernel_rfl) _ _
def k84_8 : Code := codeA k84_6
def k84_9 : Code := codeB k84_6
theorem k84_6_c : C 84 k84_6 s = thenV (C 84 k84_8 s) (C 84 k84_9) := Qc_seq (a := k84_8) (b := k84_9) (by kernel_rfl) _ _
theorem k84_8_c : C 84 k84_8 s = O 84 k84_8 0 s := Qc_region (id := 2) (ops := regOps k84_8) (by kernel_rfl) (by kernel_rfl) s
theorem k84_8_0 : O 84 k84_8 0 s = stepV s (some 14) (some { v := (R s 4) }) (O 84 k84_8 1) := oR (by kernel_rfl)
theorem k84_8_1 : O 84 k84_8 1 s = stepV s (some 15) (val (binV Tryz.prog .geq 3 false true (R s 14) (.int .i64 (0)))) (O 84 k84_8 2) := oR (by kernel_rfl)
theorem k84_8_2 : O 84 k84_8 2 s = some [(.normal, s)] := Qo_end (by kernel_rfl) s
def k84_10 : Code := codeA k84_9
def k84_11 : Code := codeB k84_9
theorem k84_9_c : C 84 k84_9 s = condV (R s 15) (C 84 k84_10) (C 84 k84_11) s := Qc_cond (t := 15) (a := k84_10) (b := k84_11) (by kernel_rfl) _ _
theorem k84_10_c : C 84 k84_10 s = some [(.normal, s)] := Qc_skip (by kernel_rfl) _ _
theorem k84_11_c : C 84 k84_11 s = some [(.exit 0, s)] := Qc_exit (by kernel_rfl) _ _
def k84_12 : Code := codeA k84_7
theorem k84_7_c : C 84 k84_7 s = blockV 1 (C 84 k84_12 s) := Qc_block (b := k84_12) (by kernel_rfl) _ _
def k84_13 : Code := codeA k84_12
def k84_14 : Code := codeB k84_12
theorem k84_12_c : C 84 k84_12 s = thenV (C 84 k84_13 s) (C 84 k84_14) := Qc_seq (a := k84_13) (b := k84_14) (by kernel_rfl) _ _
def k84_13_bef : List Nat := [0, 1, 3, 7, 0, 31, 63, 0, 128, 384, 896, 0, 3968, 8064, 0, 16511, 65535]
theorem k84_13_c : C 84 k84_13 s = D 84 k84_13 k84_13_bef 0 [] s := Qc_draw (id := 3) (ops := regOps k84_13) (by kernel_rfl) (by kernel_rfl) (by kernel_rfl) (by kernel_rfl) s
theorem k84_13_0 : D 84 k84_13 k84_13_bef 0 dn s = stepD s (some 16) 0 k84_13_bef dn (some { v := (R s 0) }) (D 84 k84_13 k84_13_bef 1) := dR (by kernel_rfl)
theorem k84_13_1 : D 84 k84_13 k84_13_bef 1 dn s = stepD s (some 17) 1 k84_13_bef dn (xNilCheck Tryz.prog (R s 16)) (D 84 k84_13 k84_13_bef 2) := dR (by kernel_rfl)
theorem k84_13_2 : D 84 k84_13 k84_13_bef 2 dn s = stepD s (some 18) 2 k84_13_bef dn (val (addrAdd (R s 17) 6)) (D 84 k84_13 k84_13_bef 3) := dR (by kernel_rfl)
theorem k84_13_3 : D 84 k84_13 k84_13_bef 3 dn s = stepD s (some 19) 3 k84_13_bef dn (xLoad Tryz.prog 27 s.h.get (R s 18)) (D 84 k84_13 k84_13_bef 4) := dR (by kernel_rfl)
theorem k84_13_4 : D 84 k84_13 k84_13_bef 4 dn s = stepD s (some 20) 4 k84_13_bef dn (some { v := (R s 4) }) (D 84 k84_13 k84_13_bef 5) := dR (by kernel_rfl)
theorem k84_13_5 : D 84 k84_13 k84_13_bef 5 dn s = stepD s (some 21) 5 k84_13_bef dn (val (indexAddr Tryz.prog 27 (R s 19) (R s 20))) (D 84 k84_13 k84_13_bef 6) := dR (by kernel_rfl)
theorem k84_13_6 : D 84 k84_13 k84_13_bef 6 dn s = stepD s (some 22) 6 k84_13_bef dn (xLoad Tryz.prog 3 s.h.get (R s 21)) (D 84 k84_13 k84_13_bef 7) := dR (by kernel_rfl)
theorem k84_13_7 : D 84 k84_13 k84_13_bef 7 dn s = stepD s (some 23) 7 k84_13_bef dn (some { v := (R s 0) }) (D 84 k84_13 k84_13_bef 8) := dR (by kernel_rfl)
theorem k84_13_8 : D 84 k84_13 k84_13_bef 8 dn s = stepD s (some 24) 8 k84_13_bef dn (xNilCheck Tryz.prog (R s 23)) (D 84 k84_13 k84_13_bef 9) := dR (by kernel_rfl)
theorem k84_13_9 : D 84 k84_13 k84_13_bef 9 dn s = stepD s (some 25) 9 k84_13_bef dn (val (addrAdd (R s 24) 7)) (D 84 k84_13 k84_13_bef 10) := dR (by kernel_rfl)
theorem k84_13_10 : D 84 k84_13 k84_13_bef 10 dn s = stepD s (some 26) 10 k84_13_bef dn (xLoad Tryz.prog 80 s.h.get (R s 25)) (D 84 k84_13 k84_13_bef 11) := dR (by kernel_rfl)
theorem k84_13_11 : D 84 k84_13 k84_13_bef 11 dn s = stepD s (some 27) 11 k84_13_bef dn (some { v := (R s 4) }) (D 84 k84_13 k84_13_bef 12) := dR (by kernel_rfl)
theorem k84_13_12 : D 84 k84_13 k84_13_bef 12 dn s = stepD s (some 28) 12 k84_13_bef dn (val (indexAddr Tryz.prog 80 (R s 26) (R s 27))) (D 84 k84_13 k84_13_bef 13) := dR (by kernel_rfl)
theorem k84_13_13 : D 84 k84_13 k84_13_bef 13 dn s = stepD s (some 29) 13 k84_13_bef dn (xLoad Tryz.prog 126 s.h.get (R s 28)) (D 84 k84_13 k84_13_bef 14) := dR (by kernel_rfl)
theorem k84_13_14 : D 84 k84_13 k84_13_bef 14 dn s = stepD s (some 8) 14 k84_13_bef dn (some { v := .ptr s.h.n 0, nw := [.row 0 [.int .i64 (0), .int .i64 (0), .int .i64 (0)]] }) (D 84 k84_13 k84_13_bef 15) := dR (by kernel_rfl)
theorem k84_13_15 : D 84 k84_13 k84_13_bef 15 dn s = stepD s (some 7) 15 k84_13_bef dn (some { v := (R s 22) }) (D 84 k84_13 k84_13_bef 16) := dR (by kernel_rfl)
theorem k84_13_16 : D 84 k84_13 k84_13_bef 16 dn s = stepD s none 16 k84_13_bef dn (xStore Tryz.prog 126 s.h.get (R s 8) (R s 29)) (D 84 k84_13 k84_13_bef 17) := dR (by kernel_rfl)
theorem k84_13_17 : D 84 k84_13 k84_13_bef 17 dn s = some [(.normal, s)] := Qd_end (by kernel_rfl) dn s
def k84_15 : Code := codeA k84_14
def k84_16 : Code := codeB k84_14
theorem k84_14_c : C 84 k84_14 s = thenV (C 84 k84_15 s) (C 84 k84_16) := Qc_seq (a := k84_15) (b := k84_16) (by kernel_rfl) _ _
def k84_15_bef : List Nat := [0, 1, 3, 7, 0, 0, 32, 96, 224, 0, 0, 0, 1535, 5631, 16383, 32767]
theorem k84_15_c : C 84 k84_15 s = D 84 k84_15 k84_15_bef 0 [] s := Qc_draw (id := 4) (ops := regOps k84_15) (by kernel_rfl) (by kernel_rfl) (by kernel_rfl) (by kernel_rfl) s
theorem k84_15_0 : D 84 k84_15 k84_15_bef 0 dn s = stepD s (some 30) 0 k84_15_bef dn (some { v := (R s 0) }) (D 84 k84_15 k84_15_bef 1) := dR (by kernel_rfl)
theorem k84_15_1 : D 84 k84_15 k84_15_bef 1 dn s = stepD s (some 31) 1 k84_15_bef dn (xNilCheck Tryz.prog (R s 30)) (D 84 k84_15 k84_15_bef 2) := dR (by kernel_rfl)
theorem k84_15_2 : D 84 k84_15 k84_15_bef 2 dn s = stepD s (some 32) 2 k84_15_bef dn (val (addrAdd (R s 31) 6)) (D 84 k84_15 k84_15_bef 3) := dR (by kernel_rfl)
theorem k84_15_3 : D 84 k84_15 k84_15_bef 3 dn s = stepD s (some 33) 3 k84_15_bef dn (xLoad Tryz.prog 27 s.h.get (R s 32)) (D 84 k84_15 k84_15_bef 4) := dR (by kernel_rfl)
theorem k84_15_4 : D 84 k84_15 k84_15_bef 4 dn s = stepD s (some 34) 4 k84_15_bef dn (some { v := (R s 4) }) (D 84 k84_15 k84_15_bef 5) := dR (by kernel_rfl)
theorem k84_15_5 : D 84 k84_15 k84_15_bef 5 dn s = stepD s (some 35) 5 k84_15_bef dn (some { v := (R s 0) }) (D 84 k84_15 k84_15_bef 6) := dR (by kernel_rfl)
theorem k84_15_6 : D 84 k84_15 k84_15_bef 6 dn s = stepD s (some 36) 6 k84_15_bef dn (xNilCheck Tryz.prog (R s 35)) (D 84 k84_15 k84_15_bef 7) := dR (by kernel_rfl)
theorem k84_15_7 : D 84 k84_15 k84_15_bef 7 dn s = stepD s (some 37) 7 k84_15_bef dn (val (addrAdd (R s 36) 7)) (D 84 k84_15 k84_15_bef 8) := dR (by kernel_rfl)
theorem k84_15_8 : D 84 k84_15 k84_15_bef 8 dn s = stepD s (some 38) 8 k84_15_bef dn (xLoad Tryz.prog 80 s.h.get (R s 37)) (D 84 k84_15 k84_15_bef 9) := dR (by kernel_rfl)
theorem k84_15_9 : D 84 k84_15 k84_15_bef 9 dn s = stepD s (some 39) 9 k84_15_bef dn (some { v := (R s 4) }) (D 84 k84_15 k84_15_bef 10) := dR (by kernel_rfl)
theorem k84_15_10 : D 84 k84_15 k84_15_bef 10 dn s = stepD s (some 40) 10 k84_15_bef dn (some { v := (R s 5) }) (D 84 k84_15 k84_15_bef 11) := dR (by kernel_rfl)
theorem k84_15_11 : D 84 k84_15 k84_15_bef 11 dn s = stepD s (some 41) 11 k84_15_bef dn (xLoad Tryz.prog 126 s.h.get (R s 6)) (D 84 k84_15 k84_15_bef 12) := dR (by kernel_rfl)
theorem k84_15_12 : D 84 k84_15 k84_15_bef 12 dn s = stepD s (some 42) 12 k84_15_bef dn (val (indexAddr Tryz.prog 27 (R s 33) (R s 34))) (D 84 k84_15 k84_15_bef 13) := dR (by kernel_rfl)
theorem k84_15_13 : D 84 k84_15 k84_15_bef 13 dn s = stepD s none 13 k84_15_bef dn (xStore Tryz.prog 3 s.h.get (R s 42) (R s 40)) (D 84 k84_15 k84_15_bef 14) := dR (by kernel_rfl)
theorem k84_15_14 : D 84 k84_15 k84_15_bef 14 dn s = stepD s (some 43) 14 k84_15_bef dn (val (indexAddr Tryz.prog 80 (R s 38) (R s 39))) (D 84 k84_15 k84_15_bef 15) := dR (by kernel_rfl)
theorem k84_15_15 : D 84 k84_15 k84_15_bef 15 dn s = stepD s none 15 k84_15_bef dn (xStore Tryz.prog 126 s.h.get (R s 43) (R s 41)) (D 84 k84_15 k84_15_bef 16) := dR (by kernel_rfl)
theorem k84_15_16 : D 84 k84_15 k84_15_bef 16 dn s = some [(.normal, s)] := Qd_end (by kernel_rfl) dn s
def k84_16_bef : List Nat := [0, 0, 0, 1, 11, 31]
theorem k84_16_c : C 84 k84_16 s = D 84 k84_16 k84_16_bef 0 [] s := Qc_draw (id := 5) (ops := regOps k84_16) (by kernel_rfl) (by kernel_rfl) (by kernel_rfl) (by kernel_rfl) s
theorem k84_16_0 : D 84 k84_16 k84_16_bef 0 dn s = stepD s (some 44) 0 k84_16_bef dn (some { v := (R s 4) }) (D 84 k84_16 k84_16_bef 1) := dR (by kernel_rfl)
theorem k84_16_1 : D 84 k84_16 k84_16_bef 1 dn s = stepD s (some 45) 1 k84_16_bef dn (xLoad Tryz.prog 126 s.h.get (R s 8)) (D 84 k84_16 k84_16_bef 2) := dR (by kernel_rfl)
theorem k84_16_2 : D 84 k84_16 k84_16_bef 2 dn s = stepD s (some 46) 2 k84_16_bef dn (some { v := (R s 7) }) (D 84 k84_16 k84_16_bef 3) := dR (by kernel_rfl)
theorem k84_16_3 : D 84 k84_16 k84_16_bef 3 dn s = stepD s (some 5) 3 k84_16_bef dn (some { v := (R s 44) }) (D 84 k84_16 k84_16_bef 4) := dR (by kernel_rfl)
theorem k84_16_4 : D 84 k84_16 k84_16_bef 4 dn s = stepD s none 4 k84_16_bef dn (xStore Tryz.prog 126 s.h.get (R s 6) (R s 45)) (D 84 k84_16 k84_16_bef 5) := dR (by kernel_rfl)
theorem k84_16_5 : D 84 k84_16 k84_16_bef 5 dn s = stepD s (some 4) 5 k84_16_bef dn (some { v := (R s 46) }) (D 84 k84_16 k84_16_bef 6) := dR (by kernel_rfl)
theorem k84_16_6 : D 84 k84_16 k84_16_bef 6 dn s = some [(.normal, s)] := Qd_end (by kernel_rfl) dn s
end Go.Proofs.YtdlaladdeelegaaGreat.Cg
end
noncomputable section
namespace Go.Proofs.YtdlaladdeelegaaGreat.Cg
open Go Go.Ae
variable (dn : List (Nat × Foot)) (s : St)
def k49 : Code := Tryz.f49.body.getD .skip
theorem k49_fun (args : List V) (ha : args.length ≤ 224) (h : H) : (EV Tryz.prog hs ks).call 49 args h = endsV Tryz.prog hs ks Tryz.f49 (C 49 k49 (S 224 (setF args 0 fun _ => undefV) [] h)) := EV_fun Tryz.func49 (by kernel_rfl) (by kernel_rfl) (by decide) rfl ha h
theorem k49_nrm (f : Nat → V) (h : H) : endsV Tryz.prog hs ks Tryz.f49 (some [(.normal, S 224 f [] h)]) = resV (resultVs Tryz.prog (S 224 f [] h) []) h := ends_one (by kernel_rfl) (Or.inr rfl) _ _
def k49_0 : Code := codeA k49
def k49_1 : Code := codeB k49
theorem k49_c : C 49 k49 s = thenV (C 49 k49_0 s) (C 49 k49_1) := Qc_seq (a := k49_0) (b := k49_1) (by kernel_rfl) _ _
theorem k49_0_c : C 49 k49_0 s = O 49 k49_0 0 s := Qc_region (id := 0) (ops := regOps k49_0) (by kernel_rfl) (by kernel_rfl) s
theorem k49_0_0 : O 49 k49_0 0 s = stepV s (some 3) (some { v := .ptr s.h.n 0, nw := [.row 0 (V.cells (R s 1))] }) (O 49 k49_0 1) := oR (by kernel_rfl)
theorem k49_0_1 : O 49 k49_0 1 s = some [(.normal, s)] := Qo_end (by kernel_rfl) s
def k49_2 : Code := codeA k49_1
def k49_3 : Code := codeB k49_1
theorem k49_1_c : C 49 k49_1 s = thenV (C 49 k49_2 s) (C 49 k49_3) := Qc_seq (a := k49_2) (b := k49_3) (by kernel_rfl) _ _
theorem k49_2_c : C 49 k49_2 s = O 49 k49_2 0 s := Qc_region (id := 1) (ops := regOps k49_2) (by kernel_rfl) (by kernel_rfl) s
theorem k49_2_0 : O 49 k49_2 0 s = stepV s (some 17) (xLoad Tryz.prog 126 s.h.get (R s 3)) (O 49 k49_2 1) := oR (by kernel_rfl)
theorem k49_2_1 : O 49 k49_2 1 s = stepV s (some 18) (litS Tryz.prog false 80 1 [(0, (R s 17))] s.h.n) (O 49 k49_2 2) := oR (by kernel_rfl)
theorem k49_2_2 : O 49 k49_2 2 s = stepV s (some 4) (some { v := (R s 18) }) (O 49 k49_2 3) := oR (by kernel_rfl)
theorem k49_2_3 : O 49 k49_2 3 s = some [(.normal, s)] := Qo_end (by kernel_rfl) s
def k49_4 : Code := codeA k49_3
theorem k49_3_c : C 49 k49_3 s = blockV 0 (C 49 k49_4 s) := Qc_block (b := k49_4) (by kernel_rfl) _ _
def k49_5 : Code := codeA k49_4
theorem k49_4_l : C 49 k49_4 s = thenV (C 49 k49_5 s) (C 49 k49_4) := Qc_loop (b := k49_5) (by kernel_rfl) _ _
def k49_6 : Code := codeA k49_5
def k49_7 : Code := codeB k49_5
theorem k49_5_c : C 49 k49_5 s = thenV (C 49 k49_6 s) (C 49 k49_7) := Qc_seq (a := k49_6) (b := k49_7) (by kernel_rfl) _ _
def k49_8 : Code := codeA k49_6
def k49_9 : Code := codeB k49_6
theorem k49_6_c : C 49 k49_6 s = thenV (C 49 k49_8 s) (C 49 k49_9) := Qc_seq (a := k49_8) (b := k49_9) (by kernel_rfl) _ _
theorem k49_8_c : C 49 k49_8 s = O 49 k49_8 0 s := Qc_region (id := 2) (ops := regOps k49_8) (by kernel_rfl) (by kernel_rfl) s
theorem k49_8_0 : O 49 k49_8 0 s = stepV s (some 19) (some { v := (R s 4) }) (O 49 k49_8 1) := oR (by kernel_rfl)
theorem k49_8_1 : O 49 k49_8 1 s = stepV s (some 20) (builtinV Tryz.prog false s.h.get s.h.n .len [80] [(R s 19)]) (O 49 k49_8 2) := oR (by kernel_rfl)
theorem k49_8_2 : O 49 k49_8 2 s = stepV s (some 21) (val (binV Tryz.prog .gtr 3 false true (R s 20) (.int .i64 (0)))) (O 49 k49_8 3) := oR (by kernel_rfl)
theorem k49_8_3 : O 49 k49_8 3 s = some [(.normal, s)] := Qo_end (by kernel_rfl) s
def k49_10 : Code := codeA k49_9
def k49_11 : Code := codeB k49_9
theorem k49_9_c : C 49 k49_9 s = condV (R s 21) (C 49 k49_10) (C 49 k49_11) s := Qc_cond (t := 21) (a := k49_10) (b := k49_11) (by kernel_rfl) _ _
theorem k49_10_c : C 49 k49_10 s = some [(.normal, s)] := Qc_skip (by kernel_rfl) _ _
theorem k49_11_c : C 49 k49_11 s = some [(.exit 0, s)] := Qc_exit (by kernel_rfl) _ _
def k49_12 : Code := codeA k49_7
theorem k49_7_c : C 49 k49_7 s = blockV 1 (C 49 k49_12 s) := Qc_block (b := k49_12) (by kernel_rfl) _ _
def k49_13 : Code := codeA k49_12
def k49_14 : Code := codeB k49_12
theorem k49_12_c : C 49 k49_12 s = thenV (C 49 k49_13 s) (C 49 k49_14) := Qc_seq (a := k49_13) (b := k49_14) (by kernel_rfl) _ _
theorem k49_13_c : C 49 k49_13 s = O 49 k49_13 0 s := Qc_region (id := 3) (ops := regOps k49_13) (by kernel_rfl) (by kernel_rfl) s
theorem k49_13_0 : O 49 k49_13 0 s = stepV s (some 22) (some { v := (R s 4) }) (O 49 k49_13 1) := oR (by kernel_rfl)
theorem k49_13_1 : O 49 k49_13 1 s = stepV s (some 23) (val (indexAddr Tryz.prog 80 (R s 22) (.int .i64 (0)))) (O 49 k49_13 2) := oR (by kernel_rfl)
theorem k49_13_2 : O 49 k49_13 2 s = stepV s (some 24) (xLoad Tryz.prog 126 s.h.get (R s 23)) (O 49 k49_13 3) := oR (by kernel_rfl)
theorem k49_13_3 : O 49 k49_13 3 s = stepV s (some 5) (some { v := .ptr s.h.n 0, nw := [.row 0 [.int .i64 (0), .int .i64 (0), .int .i64 (0)]] }) (O 49 k49_13 4) := oR (by kernel_rfl)
theorem k49_13_4 : O 49 k49_13 4 s = stepV s none (xStore Tryz.prog 126 s.h.get (R s 5) (R s 24)) (O 49 k49_13 5) := oR (by kernel_rfl)
theorem k49_13_5 : O 49 k49_13 5 s = some [(.normal, s)] := Qo_end (by kernel_rfl) s
def k49_15 : Code := codeA k49_14
def k49_16 : Code := codeB k49_14
theorem k49_14_c : C 49 k49_14 s = thenV (C 49 k49_15 s) (C 49 k49_16) := Qc_seq (a := k49_15) (b := k49_16) (by kernel_rfl) _ _
theorem k49_15_c : C 49 k49_15 s = O 49 k49_15 0 s := Qc_region (id := 4) (ops := regOps k49_15) (by kernel_rfl) (by kernel_rfl) s
theorem k49_15_0 : O 49 k49_15 0 s = stepV s (some 25) (some { v := (R s 4) }) (O 49 k49_15 1) := oR (by kernel_rfl)
theorem k49_15_1 : O 49 k49_15 1 s = stepV s (some 26) (val (sliceV Tryz.prog 80 (R s 25) (some (.int .i64 (1))) none none)) (O 49 k49_15 2) := oR (by kernel_rfl)
theorem k49_15_2 : O 49 k49_15 2 s = stepV s (some 4) (some { v := (R s 26) }) (O 49 k49_15 3) := oR (by kernel_rfl)
theorem k49_15_3 : O 49 k49_15 3 s = some [(.normal, s)] := Qo_end (by kernel_rfl) s
def k49_17 : Code := codeA k49_16
def k49_18 : Code := codeB k49_16
theorem k49_16_c : C 49 k49_16 s = thenV (C 49 k49_17 s) (C 49 k49_18) := Qc_seq (a := k49_17) (b := k49_18) (by kernel_rfl) _ _
def k49_17_bef : List Nat := [0, 1, 3, 7, 0, 16, 63, 127, 0, 256, 768, 1792, 0, 4096, 16128, 32512, 255, 131071]
theorem k49_17_c : C 49 k49_17 s = D 49 k49_17 k49_17_bef 0 [] s := Qc_draw (id := 5) (ops := regOps k49_17) (by kernel_rfl) (by kernel_rfl) (by kernel_rfl) (by kernel_rfl) s
theorem k49_17_0 : D 49 k49_17 k49_17_bef 0 dn s = stepD s (some 27) 0 k49_17_bef dn (some { v := (R s 0) }) (D 49 k49_17 k49_17_bef 1) := dR (by kernel_rfl)
theorem k49_17_1 : D 49 k49_17 k49_17_bef 1 dn s = stepD s (some 28) 1 k49_17_bef dn (xNilCheck Tryz.prog (R s 27)) (D 49 k49_17 k49_17_bef 2) := dR (by kernel_rfl)
theorem k49_17_2 : D 49 k49_17 k49_17_bef 2 dn s = stepD s (some 29) 2 k49_17_bef dn (val (addrAdd (R s 28) 2)) (D 49 k49_17 k49_17_bef 3) := dR (by kernel_rfl)
theorem k49_17_3 : D 49 k49_17 k49_17_bef 3 dn s = stepD s (some 30) 3 k49_17_bef dn (xLoad Tryz.prog 27 s.h.get (R s 29)) (D 49 k49_17 k49_17_bef 4) := dR (by kernel_rfl)
theorem k49_17_4 : D 49 k49_17 k49_17_bef 4 dn s = stepD s (some 31) 4 k49_17_bef dn (val (addrAdd (R s 5) 0)) (D 49 k49_17 k49_17_bef 5) := dR (by kernel_rfl)
theorem k49_17_5 : D 49 k49_17 k49_17_bef 5 dn s = stepD s (some 32) 5 k49_17_bef dn (xLoad Tryz.prog 3 s.h.get (R s 31)) (D 49 k49_17 k49_17_bef 6) := dR (by kernel_rfl)
theorem k49_17_6 : D 49 k49_17 k49_17_bef 6 dn s = stepD s (some 33) 6 k49_17_bef dn (val (indexAddr Tryz.prog 27 (R s 30) (R s 32))) (D 49 k49_17 k49_17_bef 7) := dR (by kernel_rfl)
theorem k49_17_7 : D 49 k49_17 k49_17_bef 7 dn s = stepD s (some 34) 7 k49_17_bef dn (xLoad Tryz.prog 3 s.h.get (R s 33)) (D 49 k49_17 k49_17_bef 8) := dR (by kernel_rfl)
theorem k49_17_8 : D 49 k49_17 k49_17_bef 8 dn s = stepD s (some 35) 8 k49_17_bef dn (some { v := (R s 0) }) (D 49 k49_17 k49_17_bef 9) := dR (by kernel_rfl)
theorem k49_17_9 : D 49 k49_17 k49_17_bef 9 dn s = stepD s (some 36) 9 k49_17_bef dn (xNilCheck Tryz.prog (R s 35)) (D 49 k49_17 k49_17_bef 10) := dR (by kernel_rfl)
theorem k49_17_10 : D 49 k49_17 k49_17_bef 10 dn s = stepD s (some 37) 10 k49_17_bef dn (val (addrAdd (R s 36) 2)) (D 49 k49_17 k49_17_bef 11) := dR (by kernel_rfl)
theorem k49_17_11 : D 49 k49_17 k49_17_bef 11 dn s = stepD s (some 38) 11 k49_17_bef dn (xLoad Tryz.prog 27 s.h.get (R s 37)) (D 49 k49_17 k49_17_bef 12) := dR (by kernel_rfl)
theorem k49_17_12 : D 49 k49_17 k49_17_bef 12 dn s = stepD s (some 39) 12 k49_17_bef dn (val (addrAdd (R s 5) 1)) (D 49 k49_17 k49_17_bef 13) := dR (by kernel_rfl)
theorem k49_17_13 : D 49 k49_17 k49_17_bef 13 dn s = stepD s (some 40) 13 k49_17_bef dn (xLoad Tryz.prog 3 s.h.get (R s 39)) (D 49 k49_17 k49_17_bef 14) := dR (by kernel_rfl)
theorem k49_17_14 : D 49 k49_17 k49_17_bef 14 dn s = stepD s (some 41) 14 k49_17_bef dn (val (indexAddr Tryz.prog 27 (R s 38) (R s 40))) (D 49 k49_17 k49_17_bef 15) := dR (by kernel_rfl)
theorem k49_17_15 : D 49 k49_17 k49_17_bef 15 dn s = stepD s (some 42) 15 k49_17_bef dn (xLoad Tryz.prog 3 s.h.get (R s 41)) (D 49 k49_17 k49_17_bef 16) := dR (by kernel_rfl)
theorem k49_17_16 : D 49 k49_17 k49_17_bef 16 dn s = stepD s (some 6) 16 k49_17_bef dn (some { v := (R s 34) }) (D 49 k49_17 k49_17_bef 17) := dR (by kernel_rfl)
theorem k49_17_17 : D 49 k49_17 k49_17_bef 17 dn s = stepD s (some 7) 17 k49_17_bef dn (some { v := (R s 42) }) (D 49 k49_17 k49_17_bef 18) := dR (by kernel_rfl)
theorem k49_17_18 : D 49 k49_17 k49_17_bef 18 dn s = some [(.normal, s)] := Qd_end (by kernel_rfl) dn s
def k49_19 : Code := codeA k49_18
def k49_20 : Code := codeB k49_18
theorem k49_18_c : C 49 k49_18 s = thenV (C 49 k49_19 s) (C 49 k49_20) := Qc_seq (a := k49_19) (b := k49_20) (by kernel_rfl) _ _
def k49_21 : Code := codeA k49_19
def k49_22 : Code := codeB k49_19
theorem k49_19_c : C 49 k49_19 s = thenV (C 49 k49_21 s) (C 49 k49_22) := Qc_seq (a := k49_21) (b := k49_22) (by kernel_rfl) _ _
theorem k49_21_c : C 49 k49_21 s = O 49 k49_21 0 s := Qc_region (id := 6) (ops := regOps k49_21) (by kernel_rfl) (by kernel_rfl) s
theorem k49_21_0 : O 49 k49_21 0 s = stepV s (some 43) (some { v := (R s 6) }) (O 49 k49_21 1) := oR (by kernel_rfl)
theorem k49_21_1 : O 49 k49_21 1 s = stepV s (some 44) (some { v := (R s 7) }) (O 49 k49_21 2) := oR (by kernel_rfl)
theorem k49_21_2 : O 49 k49_21 2 s = stepV s (some 45) (val (binV Tryz.prog .eql 3 false false (R s 43) (R s 44))) (O 49 k49_21 3) := oR (by kernel_rfl)
theorem k49_21_3 : O 49 k49_21 3 s = some [(.normal, s)] := Qo_end (by kernel_rfl) s
def k49_23 : Code := codeA k49_22
def k49_24 : Code := codeB k49_22
theorem k49_22_c : C 49 k49_22 s = condV (R s 45) (C 49 k49_23) (C 49 k49_24) s := Qc_cond (t := 45) (a := k49_23) (b := k49_24) (by kernel_rfl) _ _
theorem k49_23_c : C 49 k49_23 s = some [(.exit 1, s)] := Qc_exit (by kernel_rfl) _ _
theorem k49_24_c : C 49 k49_24 s = some [(.normal, s)] := Qc_skip (by kernel_rfl) _ _
def k49_25 : Code := codeA k49_20
def k49_26 : Code := codeB k49_20
theorem k49_20_c : C 49 k49_20 s = thenV (C 49 k49_25 s) (C 49 k49_26) := Qc_seq (a := k49_25) (b := k49_26) (by kernel_rfl) _ _
def k49_27 : Code := codeA k49_25
def k49_28 : Code := codeB k49_25
theorem k49_25_c : C 49 k49_25 s = thenV (C 49 k49_27 s) (C 49 k49_28) := Qc_seq (a := k49_27) (b := k49_28) (by kernel_rfl) _ _
def k49_27_bef : List Nat := [0, 1, 3, 7, 0, 31, 63, 127, 0, 256, 768, 1792, 0, 7936, 16128, 32512, 65535]
theorem k49_27_c : C 49 k49_27 s = D 49 k49_27 k49_27_bef 0 [] s := Qc_draw (id := 7) (ops := regOps k49_27) (by kernel_rfl) (by kernel_rfl) (by kernel_rfl) (by kernel_rfl) s
theorem k49_27_0 : D 49 k49_27 k49_27_bef 0 dn s = stepD s (some 46) 0 k49_27_bef dn (some { v := (R s 0) }) (D 49 k49_27 k49_27_bef 1) := dR (by kernel_rfl)
theorem k49_27_1 : D 49 k49_27 k49_27_bef 1 dn s = stepD s (some 47) 1 k49_27_bef dn (xNilCheck Tryz.prog (R s 46)) (D 49 k49_27 k49_27_bef 2) := dR (by kernel_rfl)
theorem k49_27_2 : D 49 k49_27 k49_27_bef 2 dn s = stepD s (some 48) 2 k49_27_bef dn (val (addrAdd (R s 47) 3)) (D 49 k49_27 k49_27_bef 3) := dR (by kernel_rfl)
theorem k49_27_3 : D 49 k49_27 k49_27_bef 3 dn s = stepD s (some 49) 3 k49_27_bef dn (xLoad Tryz.prog 78 s.h.get (R s 48)) (D 49 k49_27 k49_27_bef 4) := dR (by kernel_rfl)
theorem k49_27_4 : D 49 k49_27 k49_27_bef 4 dn s = stepD s (some 50) 4 k49_27_bef dn (some { v := (R s 6) }) (D 49 k49_27 k49_27_bef 5) := dR (by kernel_rfl)
theorem k49_27_5 : D 49 k49_27 k49_27_bef 5 dn s = stepD s (some 51) 5 k49_27_bef dn (val (indexAddr Tryz.prog 78 (R s 49) (R s 50))) (D 49 k49_27 k49_27_bef 6) := dR (by kernel_rfl)
theorem k49_27_6 : D 49 k49_27 k49_27_bef 6 dn s = stepD s (some 52) 6 k49_27_bef dn (xLoad Tryz.prog 27 s.h.get (R s 51)) (D 49 k49_27 k49_27_bef 7) := dR (by kernel_rfl)
theorem k49_27_7 : D 49 k49_27 k49_27_bef 7 dn s = stepD s (some 53) 7 k49_27_bef dn (builtinV Tryz.prog false s.h.get s.h.n .len [27] [(R s 52)]) (D 49 k49_27 k49_27_bef 8) := dR (by kernel_rfl)
theorem k49_27_8 : D 49 k49_27 k49_27_bef 8 dn s = stepD s (some 54) 8 k49_27_bef dn (some { v := (R s 0) }) (D 49 k49_27 k49_27_bef 9) := dR (by kernel_rfl)
theorem k49_27_9 : D 49 k49_27 k49_27_bef 9 dn s = stepD s (some 55) 9 k49_27_bef dn (xNilCheck Tryz.prog (R s 54)) (D 49 k49_27 k49_27_bef 10) := dR (by kernel_rfl)
theorem k49_27_10 : D 49 k49_27 k49_27_bef 10 dn s = stepD s (some 56) 10 k49_27_bef dn (val (addrAdd (R s 55) 3)) (D 49 k49_27 k49_27_bef 11) := dR (by kernel_rfl)
theorem k49_27_11 : D 49 k49_27 k49_27_bef 11 dn s = stepD s (some 57) 11 k49_27_bef dn (xLoad Tryz.prog 78 s.h.get (R s 56)) (D 49 k49_27 k49_27_bef 12) := dR (by kernel_rfl)
theorem k49_27_12 : D 49 k49_27 k49_27_bef 12 dn s = stepD s (some 58) 12 k49_27_bef dn (some { v := (R s 7) }) (D 49 k49_27 k49_27_bef 13) := dR (by kernel_rfl)
theorem k49_27_13 : D 49 k49_27 k49_27_bef 13 dn s = stepD s (some 59) 13 k49_27_bef dn (val (indexAddr Tryz.prog 78 (R s 57) (R s 58))) (D 49 k49_27 k49_27_bef 14) := dR (by kernel_rfl)
theorem k49_27_14 : D 49 k49_27 k49_27_bef 14 dn s = stepD s (some 60) 14 k49_27_bef dn (xLoad Tryz.prog 27 s.h.get (R s 59)) (D 49 k49_27 k49_27_bef 15) := dR (by kernel_rfl)
theorem k49_27_15 : D 49 k49_27 k49_27_bef 15 dn s = stepD s (some 61) 15 k49_27_bef dn (builtinV Tryz.prog false s.h.get s.h.n .len [27] [(R s 60)]) (D 49 k49_27 k49_27_bef 16) := dR (by kernel_rfl)
theorem k49_27_16 : D 49 k49_27 k49_27_bef 16 dn s = stepD s (some 62) 16 k49_27_bef dn (val (binV Tryz.prog .gtr 3 false false (R s 53) (R s 61))) (D 49 k49_27 k49_27_bef 17) := dR (by kernel_rfl)
theorem k49_27_17 : D 49 k49_27 k49_27_bef 17 dn s = some [(.normal, s)] := Qd_end (by kernel_rfl) dn s
def k49_29 : Code := codeA k49_28
def k49_30 : Code := codeB k49_28
theorem k49_28_c : C 49 k49_28 s = condV (R s 62) (C 49 k49_29) (C 49 k49_30) s := Qc_cond (t := 62) (a := k49_29) (b := k49_30) (by kernel_rfl) _ _
def k49_31 : Code := codeA k49_29
def k49_32 : Code := codeB k49_29
theorem k49_29_c : C 49 k49_29 s = thenV (C 49 k49_31 s) (C 49 k49_32) := Qc_seq (a := k49_31) (b := k49_32) (by kernel_rfl) _ _
theorem k49_31_c : C 49 k49_31 s = O 49 k49_31 0 s := Qc_region (id := 8) (ops := regOps k49_31) (by kernel_rfl) (by kernel_rfl) s
theorem k49_31_0 : O 49 k49_31 0 s = stepV s (some 63) (some { v := (R s 7) }) (O 49 k49_31 1) := oR (by kernel_rfl)
theorem k49_31_1 : O 49 k49_31 1 s = stepV s (some 64) (some { v := (R s 6) }) (O 49 k49_31 2) := oR (by kernel_rfl)
theorem k49_31_2 : O 49 k49_31 2 s = stepV s (some 6) (some { v := (R s 63) }) (O 49 k49_31 3) := oR (by kernel_rfl)
theorem k49_31_3 : O 49 k49_31 3 s = stepV s (some 7) (some { v := (R s 64) }) (O 49 k49_31 4) := oR (by kernel_rfl)
theorem k49_31_4 : O 49 k49_31 4 s = some [(.normal, s)] := Qo_end (by kernel_rfl) s
theorem k49_32_c : C 49 k49_32 s = O 49 k49_32 0 s := Qc_region (id := 9) (ops := regOps k49_32) (by kernel_rfl) (by kernel_rfl) s
theorem k49_32_0 : O 49 k49_32 0 s = stepV s (some 65) (val (addrAdd (R s 5) 1)) (O 49 k49_32 1) := oR (by kernel_rfl)
theorem k49_32_1 : O 49 k49_32 1 s = stepV s (some 66) (xLoad Tryz.prog 3 s.h.get (R s 65)) (O 49 k49_32 2) := oR (by kernel_rfl)
theorem k49_32_2 : O 49 k49_32 2 s = stepV s (some 67) (val (addrAdd (R s 5) 0)) (O 49 k49_32 3) := oR (by kernel_rfl)
theorem k49_32_3 : O 49 k49_32 3 s = stepV s (some 68) (xLoad Tryz.prog 3 s.h.get (R s 67)) (O 49 k49_32 4) := oR (by kernel_rfl)
theorem k49_32_4 : O 49 k49_32 4 s = stepV s (some 69) (val (addrAdd (R s 5) 0)) (O 49 k49_32 5) := oR (by kernel_rfl)
theorem k49_32_5 : O 49 k49_32 5 s = stepV s none (xStore Tryz.prog 3 s.h.get (R s 69) (R s 66)) (O 49 k49_32 6) := oR (by kernel_rfl)
theorem k49_32_6 : O 49 k49_32 6 s = stepV s (some 70) (val (addrAdd (R s 5) 1)) (O 49 k49_32 7) := oR (by kernel_rfl)
theorem k49_32_7 : O 49 k49_32 7 s = stepV s none (xStore Tryz.prog 3 s.h.get (R s 70) (R s 68)) (O 49 k49_32 8) := oR (by kernel_rfl)
theorem k49_32_8 : O 49 k49_32 8 s = some [(.normal, s)] := Qo_end (by kernel_rfl) s
theorem k49_30_c : C 49 k49_30 s = some [(.normal, s)] := Qc_skip (by kernel_rfl) _ _
def k49_33 : Code := codeA k49_26
def k49_34 : Code := codeB k49_26
theorem k49_26_c : C 49 k49_26 s = thenV (C 49 k49_33 s) (C 49 k49_34) := Qc_seq (a := k49_33) (b := k49_34) (by kernel_rfl) _ _
theorem k49_33_c : C 49 k49_33 s = O 49 k49_33 0 s := Qc_region (id := 10) (ops := regOps k49_33) (by kernel_rfl) (by kernel_rfl) s
theorem k49_33_0 : O 49 k49_33 0 s = stepV s (some 71) (some { v := (R s 0) }) (O 49 k49_33 1) := oR (by kernel_rfl)
theorem k49_33_1 : O 49 k49_33 1 s = stepV s (some 72) (xLoad Tryz.prog 126 s.h.get (R s 5)) (O 49 k49_33 2) := oR (by kernel_rfl)
theorem k49_33_2 : O 49 k49_33 2 s = thenC (some 73) s (callS Tryz.prog hs ks 84 [(R s 71), (R s 72)] s.h) (O 49 k49_33 3) := cR (by kernel_rfl)
theorem k49_33_3 : O 49 k49_33 3 s = some [(.normal, s)] := Qo_end (by kernel_rfl) s
def k49_35 : Code := codeA k49_34
def k49_36 : Code := codeB k49_34
theorem k49_34_c : C 49 k49_34 s = thenV (C 49 k49_35 s) (C 49 k49_36) := Qc_seq (a := k49_35) (b := k49_36) (by kernel_rfl) _ _
def k49_37 : Code := codeA k49_35
def k49_38 : Code := codeB k49_35
theorem k49_35_c : C 49 k49_35 s = thenV (C 49 k49_37 s) (C 49 k49_38) := Qc_seq (a := k49_37) (b := k49_38) (by kernel_rfl) _ _
theorem k49_37_c : C 49 k49_37 s = O 49 k49_37 0 s := Qc_region (id := 11) (ops := regOps k49_37) (by kernel_rfl) (by kernel_rfl) s
theorem k49_37_0 : O 49 k49_37 0 s = stepV s (some 74) (some { v := (R s 0) }) (O 49 k49_37 1) := oR (by kernel_rfl)
theorem k49_37_1 : O 49 k49_37 1 s = stepV s (some 75) (xNilCheck Tryz.prog (R s 74)) (O 49 k49_37 2) := oR (by kernel_rfl)
theorem k49_37_2 : O 49 k49_37 2 s = stepV s (some 76) (val (addrAdd (R s 75) 3)) (O 49 k49_37 3) := oR (by kernel_rfl)
theorem k49_37_3 : O 49 k49_37 3 s = stepV s (some 77) (xLoad Tryz.prog 78 s.h.get (R s 76)) (O 49 k49_37 4) := oR (by kernel_rfl)
theorem k49_37_4 : O 49 k49_37 4 s = stepV s (some 78) (some { v := (R s 6) }) (O 49 k49_37 5) := oR (by kernel_rfl)
theorem k49_37_5 : O 49 k49_37 5 s = stepV s (some 79) (val (indexAddr Tryz.prog 78 (R s 77) (R s 78))) (O 49 k49_37 6) := oR (by kernel_rfl)
theorem k49_37_6 : O 49 k49_37 6 s = stepV s (some 80) (xLoad Tryz.prog 27 s.h.get (R s 79)) (O 49 k49_37 7) := oR (by kernel_rfl)
theorem k49_37_7 : O 49 k49_37 7 s = stepV s (some 81) (builtinV Tryz.prog false s.h.get s.h.n .len [27] [(R s 80)]) (O 49 k49_37 8) := oR (by kernel_rfl)
theorem k49_37_8 : O 49 k49_37 8 s = stepV s (some 82) (some { v := (.int .i64 (0)) }) (O 49 k49_37 9) := oR (by kernel_rfl)
theorem k49_37_9 : O 49 k49_37 9 s = some [(.normal, s)] := Qo_end (by kernel_rfl) s
def k49_39 : Code := codeA k49_38
theorem k49_38_c : C 49 k49_38 s = blockV 2 (C 49 k49_39 s) := Qc_block (b := k49_39) (by kernel_rfl) _ _
def k49_40 : Code := codeA k49_39
theorem k49_39_l : C 49 k49_39 s = thenV (C 49 k49_40 s) (C 49 k49_39) := Qc_loop (b := k49_40) (by kernel_rfl) _ _
def k49_41 : Code := codeA k49_40
def k49_42 : Code := codeB k49_40
theorem k49_40_c : C 49 k49_40 s = thenV (C 49 k49_41 s) (C 49 k49_42) := Qc_seq (a := k49_41) (b := k49_42) (by kernel_rfl) _ _
theorem k49_41_c : C 49 k49_41 s = O 49 k49_41 0 s := Qc_region (id := 12) (ops := regOps k49_41) (by kernel_rfl) (by kernel_rfl) s
theorem k49_41_0 : O 49 k49_41 0 s = stepV s (some 83) (val (binV Tryz.prog .lss 3 false false (R s 82) (R s 81))) (O 49 k49_41 1) := oR (by kernel_rfl)
theorem k49_41_1 : O 49 k49_41 1 s = some [(.normal, s)] := Qo_end (by kernel_rfl) s
def k49_43 : Code := codeA k49_42
def k49_44 : Code := codeB k49_42
theorem k49_42_c : C 49 k49_42 s = thenV (C 49 k49_43 s) (C 49 k49_44) := Qc_seq (a := k49_43) (b := k49_44) (by kernel_rfl) _ _
def k49_45 : Code := codeA k49_43
def k49_46 : Code := codeB k49_43
theorem k49_43_c : C 49 k49_43 s = condV (R s 83) (C 49 k49_45) (C 49 k49_46) s := Qc_cond (t := 83) (a := k49_45) (b := k49_46) (by kernel_rfl) _ _
theorem k49_45_c : C 49 k49_45 s = some [(.normal, s)] := Qc_skip (by kernel_rfl) _ _
theorem k49_46_c : C 49 k49_46 s = some [(.exit 2, s)] := Qc_exit (by kernel_rfl) _ _
def k49_47 : Code := codeA k49_44
def k49_48 : Code := codeB k49_44
theorem k49_44_c : C 49 k49_44 s = thenV (C 49 k49_47 s) (C 49 k49_48) := Qc_seq (a := k49_47) (b := k49_48) (by kernel_rfl) _ _
def k49_49 : Code := codeA k49_47
theorem k49_47_c : C 49 k49_47 s = blockV 3 (C 49 k49_49 s) := Qc_block (b := k49_49) (by kernel_rfl) _ _
def k49_50 : Code := codeA k49_49
def k49_51 : Code := codeB k49_49
theorem k49_49_c : C 49 k49_49 s = thenV (C 49 k49_50 s) (C 49 k49_51) := Qc_seq (a := k49_50) (b := k49_51) (by kernel_rfl) _ _
theorem k49_50_c : C 49 k49_50 s = O 49 k49_50 0 s := Qc_region (id := 13) (ops := regOps k49_50) (by kernel_rfl) (by kernel_rfl) s
theorem k49_50_0 : O 49 k49_50 0 s = stepV s (some 84) (val (indexAddr Tryz.prog 27 (R s 80) (R s 82))) (O 49 k49_50 1) := oR (by kernel_rfl)
theorem k49_50_1 : O 49 k49_50 1 s = stepV s (some 85) (xLoad Tryz.prog 3 s.h.get (R s 84)) (O 49 k49_50 2) := oR (by kernel_rfl)
theorem k49_50_2 : O 49 k49_50 2 s = stepV s (some 9) (some { v := (R s 85) }) (O 49 k49_50 3) := oR (by kernel_rfl)
theorem k49_50_3 : O 49 k49_50 3 s = some [(.normal, s)] := Qo_end (by kernel_rfl) s
theorem k49_51_c : C 49 k49_51 s = O 49 k49_51 0 s := Qc_region (id := 14) (ops := regOps k49_51) (by kernel_rfl) (by kernel_rfl) s
theorem k49_51_0 : O 49 k49_51 0 s = stepV s (some 86) (some { v := (R s 0) }) (O 49 k49_51 1) := oR (by kernel_rfl)
theorem k49_51_1 : O 49 k49_51 1 s = stepV s (some 87) (xNilCheck Tryz.prog (R s 86)) (O 49 k49_51 2) := oR (by kernel_rfl)
theorem k49_51_2 : O 49 k49_51 2 s = stepV s (some 88) (val (addrAdd (R s 87) 2)) (O 49 k49_51 3) := oR (by kernel_rfl)
theorem k49_51_3 : O 49 k49_51 3 s = stepV s (some 89) (xLoad Tryz.prog 27 s.h.get (R s 88)) (O 49 k49_51 4) := oR (by kernel_rfl)
theorem k49_51_4 : O 49 k49_51 4 s = stepV s (some 90) (some { v := (R s 9) }) (O 49 k49_51 5) := oR (by kernel_rfl)
theorem k49_51_5 : O 49 k49_51 5 s = stepV s (some 91) (some { v := (R s 7) }) (O 49 k49_51 6) := oR (by kernel_rfl)
theorem k49_51_6 : O 49 k49_51 6 s = stepV s (some 92) (val (indexAddr Tryz.prog 27 (R s 89) (R s 90))) (O 49 k49_51 7) := oR (by kernel_rfl)
theorem k49_51_7 : O 49 k49_51 7 s = stepV s none (xStore Tryz.prog 3 s.h.get (R s 92) (R s 91)) (O 49 k49_51 8) := oR (by kernel_rfl)
theorem k49_51_8 : O 49 k49_51 8 s = some [(.normal, s)] := Qo_end (by kernel_rfl) s
theorem k49_48_c : C 49 k49_48 s = O 49 k49_48 0 s := Qc_region (id := 15) (ops := regOps k49_48) (by kernel_rfl) (by kernel_rfl) s
theorem k49_48_0 : O 49 k49_48 0 s = stepV s (some 93) (val (binV Tryz.prog .add 3 false true (R s 82) (.int .i64 (1)))) (O 49 k49_48 1) := oR (by kernel_rfl)
theorem k49_48_1 : O 49 k49_48 1 s = stepV s (some 82) (some { v := (R s 93) }) (O 49 k49_48 2) := oR (by kernel_rfl)
theorem k49_48_2 : O 49 k49_48 2 s = some [(.normal, s)] := Qo_end (by kernel_rfl) s
def k49_52 : Code := codeA k49_36
def k49_53 : Code := codeB k49_36
theorem k49_36_c : C 49 k49_36 s = thenV (C 49 k49_52 s) (C 49 k49_53) := Qc_seq (a := k49_52) (b := k49_53) (by kernel_rfl) _ _
def k49_52_bef : List Nat := [0, 1, 3, 7, 0, 0, 32, 96, 224, 0, 992, 2016, 0, 4096, 12288, 28672, 0, 126976, 258048, 524256, 1048575, 2097151]
theorem k49_52_c : C 49 k49_52 s = D 49 k49_52 k49_52_bef 0 [] s := Qc_draw (id := 16) (ops := regOps k49_52) (by kernel_rfl) (by kernel_rfl) (by kernel_rfl) (by kernel_rfl) s
theorem k49_52_0 : D 49 k49_52 k49_52_bef 0 dn s = stepD s (some 94) 0 k49_52_bef dn (some { v := (R s 0) }) (D 49 k49_52 k49_52_bef 1) := dR (by kernel_rfl)
theorem k49_52_1 : D 49 k49_52 k49_52_bef 1 dn s = stepD s (some 95) 1 k49_52_bef dn (xNilCheck Tryz.prog (R s 94)) (D 49 k49_52 k49_52_bef 2) := dR (by kernel_rfl)
theorem k49_52_2 : D 49 k49_52 k49_52_bef 2 dn s = stepD s (some 96) 2 k49_52_bef dn (val (addrAdd (R s 95) 3)) (D 49 k49_52 k49_52_bef 3) := dR (by kernel_rfl)
theorem k49_52_3 : D 49 k49_52 k49_52_bef 3 dn s = stepD s (some 97) 3 k49_52_bef dn (xLoad Tryz.prog 78 s.h.get (R s 96)) (D 49 k49_52 k49_52_bef 4) := dR (by kernel_rfl)
theorem k49_52_4 : D 49 k49_52 k49_52_bef 4 dn s = stepD s (some 98) 4 k49_52_bef dn (some { v := (R s 7) }) (D 49 k49_52 k49_52_bef 5) := dR (by kernel_rfl)
theorem k49_52_5 : D 49 k49_52 k49_52_bef 5 dn s = stepD s (some 99) 5 k49_52_bef dn (some { v := (R s 0) }) (D 49 k49_52 k49_52_bef 6) := dR (by kernel_rfl)
theorem k49_52_6 : D 49 k49_52 k49_52_bef 6 dn s = stepD s (some 100) 6 k49_52_bef dn (xNilCheck Tryz.prog (R s 99)) (D 49 k49_52 k49_52_bef 7) := dR (by kernel_rfl)
theorem k49_52_7 : D 49 k49_52 k49_52_bef 7 dn s = stepD s (some 101) 7 k49_52_bef dn (val (addrAdd (R s 100) 3)) (D 49 k49_52 k49_52_bef 8) := dR (by kernel_rfl)
theorem k49_52_8 : D 49 k49_52 k49_52_bef 8 dn s = stepD s (some 102) 8 k49_52_bef dn (xLoad Tryz.prog 78 s.h.get (R s 101)) (D 49 k49_52 k49_52_bef 9) := dR (by kernel_rfl)
theorem k49_52_9 : D 49 k49_52 k49_52_bef 9 dn s = stepD s (some 103) 9 k49_52_bef dn (some { v := (R s 7) }) (D 49 k49_52 k49_52_bef 10) := dR (by kernel_rfl)
theorem k49_52_10 : D 49 k49_52 k49_52_bef 10 dn s = stepD s (some 104) 10 k49_52_bef dn (val (indexAddr Tryz.prog 78 (R s 102) (R s 103))) (D 49 k49_52 k49_52_bef 11) := dR (by kernel_rfl)
theorem k49_52_11 : D 49 k49_52 k49_52_bef 11 dn s = stepD s (some 105) 11 k49_52_bef dn (xLoad Tryz.prog 27 s.h.get (R s 104)) (D 49 k49_52 k49_52_bef 12) := dR (by kernel_rfl)
theorem k49_52_12 : D 49 k49_52 k49_52_bef 12 dn s = stepD s (some 106) 12 k49_52_bef dn (some { v := (R s 0) }) (D 49 k49_52 k49_52_bef 13) := dR (by kernel_rfl)
theorem k49_52_13 : D 49 k49_52 k49_52_bef 13 dn s = stepD s (some 107) 13 k49_52_bef dn (xNilCheck Tryz.prog (R s 106)) (D 49 k49_52 k49_52_bef 14) := dR (by kernel_rfl)
theorem k49_52_14 : D 49 k49_52 k49_52_bef 14 dn s = stepD s (some 108) 14 k49_52_bef dn (val (addrAdd (R s 107) 3)) (D 49 k49_52 k49_52_bef 15) := dR (by kernel_rfl)
theorem k49_52_15 : D 49 k49_52 k49_52_bef 15 dn s = stepD s (some 109) 15 k49_52_bef dn (xLoad Tryz.prog 78 s.h.get (R s 108)) (D 49 k49_52 k49_52_bef 16) := dR (by kernel_rfl)
theorem k49_52_16 : D 49 k49_52 k49_52_bef 16 dn s = stepD s (some 110) 16 k49_52_bef dn (some { v := (R s 6) }) (D 49 k49_52 k49_52_bef 17) := dR (by kernel_rfl)
theorem k49_52_17 : D 49 k49_52 k49_52_bef 17 dn s = stepD s (some 111) 17 k49_52_bef dn (val (indexAddr Tryz.prog 78 (R s 109) (R s 110))) (D 49 k49_52 k49_52_bef 18) := dR (by kernel_rfl)
theorem k49_52_18 : D 49 k49_52 k49_52_bef 18 dn s = stepD s (some 112) 18 k49_52_bef dn (xLoad Tryz.prog 27 s.h.get (R s 111)) (D 49 k49_52 k49_52_bef 19) := dR (by kernel_rfl)
theorem k49_52_19 : D 49 k49_52 k49_52_bef 19 dn s = stepD s (some 113) 19 k49_52_bef dn (builtinV Tryz.prog false s.h.get s.h.n .append [27, 27] [(R s 105), (R s 112)]) (D 49 k49_52 k49_52_bef 20) := dR (by kernel_rfl)
theorem k49_52_20 : D 49 k49_52 k49_52_bef 20 dn s = stepD s (some 114) 20 k49_52_bef dn (val (indexAddr Tryz.prog 78 (R s 97) (R s 98))) (D 49 k49_52 k49_52_bef 21) := dR (by kernel_rfl)
theorem k49_52_21 : D 49 k49_52 k49_52_bef 21 dn s = stepD s none 21 k49_52_bef dn (xStore Tryz.prog 27 s.h.get (R s 114) (R s 113)) (D 49 k49_52 k49_52_bef 22) := dR (by kernel_rfl)
theorem k49_52_22 : D 49 k49_52 k49_52_bef 22 dn s = some [(.normal, s)] := Qd_end (by kernel_rfl) dn s
def k49_54 : Code := codeA k49_53
def k49_55 : Code := codeB k49_53
theorem k49_53_c : C 49 k49_53 s = thenV (C 49 k49_54 s) (C 49 k49_55) := Qc_seq (a := k49_54) (b := k49_55) (by kernel_rfl) _ _
theorem k49_54_c : C 49 k49_54 s = O 49 k49_54 0 s := Qc_region (id := 17) (ops := regOps k49_54) (by kernel_rfl) (by kernel_rfl) s
theorem k49_54_0 : O 49 k49_54 0 s = stepV s (some 115) (some { v := (R s 0) }) (O 49 k49_54 1) := oR (by kernel_rfl)
theorem k49_54_1 : O 49 k49_54 1 s = stepV s (some 116) (xNilCheck Tryz.prog (R s 115)) (O 49 k49_54 2) := oR (by kernel_rfl)
theorem k49_54_2 : O 49 k49_54 2 s = stepV s (some 117) (val (addrAdd (R s 116) 4)) (O 49 k49_54 3) := oR (by kernel_rfl)
theorem k49_54_3 : O 49 k49_54 3 s = stepV s (some 118) (xLoad Tryz.prog 78 s.h.get (R s 117)) (O 49 k49_54 4) := oR (by kernel_rfl)
theorem k49_54_4 : O 49 k49_54 4 s = stepV s (some 119) (some { v := (R s 6) }) (O 49 k49_54 5) := oR (by kernel_rfl)
theorem k49_54_5 : O 49 k49_54 5 s = stepV s (some 120) (val (indexAddr Tryz.prog 78 (R s 118) (R s 119))) (O 49 k49_54 6) := oR (by kernel_rfl)
theorem k49_54_6 : O 49 k49_54 6 s = stepV s (some 121) (xLoad Tryz.prog 27 s.h.get (R s 120)) (O 49 k49_54 7) := oR (by kernel_rfl)
theorem k49_54_7 : O 49 k49_54 7 s = stepV s (some 10) (some { v := (R s 121) }) (O 49 k49_54 8) := oR (by kernel_rfl)
theorem k49_54_8 : O 49 k49_54 8 s = some [(.normal, s)] := Qo_end (by kernel_rfl) s
def k49_56 : Code := codeA k49_55
def k49_57 : Code := codeB k49_55
theorem k49_55_c : C 49 k49_55 s = thenV (C 49 k49_56 s) (C 49 k49_57) := Qc_seq (a := k49_56) (b := k49_57) (by kernel_rfl) _ _
def k49_56_bef : List Nat := [0, 1, 3, 7, 0, 0, 32, 96, 224, 0, 511, 1535, 4095, 8191]
theorem k49_56_c : C 49 k49_56 s = D 49 k49_56 k49_56_bef 0 [] s := Qc_draw (id := 18) (ops := regOps k49_56) (by kernel_rfl) (by kernel_rfl) (by kernel_rfl) (by kernel_rfl) s
theorem k49_56_0 : D 49 k49_56 k49_56_bef 0 dn s = stepD s (some 122) 0 k49_56_bef dn (some { v := (R s 0) }) (D 49 k49_56 k49_56_bef 1) := dR (by kernel_rfl)
theorem k49_56_1 : D 49 k49_56 k49_56_bef 1 dn s = stepD s (some 123) 1 k49_56_bef dn (xNilCheck Tryz.prog (R s 122)) (D 49 k49_56 k49_56_bef 2) := dR (by kernel_rfl)
theorem k49_56_2 : D 49 k49_56 k49_56_bef 2 dn s = stepD s (some 124) 2 k49_56_bef dn (val (addrAdd (R s 123) 3)) (D 49 k49_56 k49_56_bef 3) := dR (by kernel_rfl)
theorem k49_56_3 : D 49 k49_56 k49_56_bef 3 dn s = stepD s (some 125) 3 k49_56_bef dn (xLoad Tryz.prog 78 s.h.get (R s 124)) (D 49 k49_56 k49_56_bef 4) := dR (by kernel_rfl)
theorem k49_56_4 : D 49 k49_56 k49_56_bef 4 dn s = stepD s (some 126) 4 k49_56_bef dn (some { v := (R s 6) }) (D 49 k49_56 k49_56_bef 5) := dR (by kernel_rfl)
theorem k49_56_5 : D 49 k49_56 k49_56_bef 5 dn s = stepD s (some 127) 5 k49_56_bef dn (some { v := (R s 0) }) (D 49 k49_56 k49_56_bef 6) := dR (by kernel_rfl)
theorem k49_56_6 : D 49 k49_56 k49_56_bef 6 dn s = stepD s (some 128) 6 k49_56_bef dn (xNilCheck Tryz.prog (R s 127)) (D 49 k49_56 k49_56_bef 7) := dR (by kernel_rfl)
theorem k49_56_7 : D 49 k49_56 k49_56_bef 7 dn s = stepD s (some 129) 7 k49_56_bef dn (val (addrAdd (R s 128) 4)) (D 49 k49_56 k49_56_bef 8) := dR (by kernel_rfl)
theorem k49_56_8 : D 49 k49_56 k49_56_bef 8 dn s = stepD s (some 130) 8 k49_56_bef dn (xLoad Tryz.prog 78 s.h.get (R s 129)) (D 49 k49_56 k49_56_bef 9) := dR (by kernel_rfl)
theorem k49_56_9 : D 49 k49_56 k49_56_bef 9 dn s = stepD s (some 131) 9 k49_56_bef dn (some { v := (R s 6) }) (D 49 k49_56 k49_56_bef 10) := dR (by kernel_rfl)
theorem k49_56_10 : D 49 k49_56 k49_56_bef 10 dn s = stepD s (some 132) 10 k49_56_bef dn (val (indexAddr Tryz.prog 78 (R s 125) (R s 126))) (D 49 k49_56 k49_56_bef 11) := dR (by kernel_rfl)
theorem k49_56_11 : D 49 k49_56 k49_56_bef 11 dn s = stepD s none 11 k49_56_bef dn (xStore Tryz.prog 27 s.h.get (R s 132) (.nils)) (D 49 k49_56 k49_56_bef 12) := dR (by kernel_rfl)
theorem k49_56_12 : D 49 k49_56 k49_56_bef 12 dn s = stepD s (some 133) 12 k49_56_bef dn (val (indexAddr Tryz.prog 78 (R s 130) (R s 131))) (D 49 k49_56 k49_56_bef 13) := dR (by kernel_rfl)
theorem k49_56_13 : D 49 k49_56 k49_56_bef 13 dn s = stepD s none 13 k49_56_bef dn (xStore Tryz.prog 27 s.h.get (R s 133) (.nils)) (D 49 k49_56 k49_56_bef 14) := dR (by kernel_rfl)
theorem k49_56_14 : D 49 k49_56 k49_56_bef 14 dn s = some [(.normal, s)] := Qd_end (by kernel_rfl) dn s
def k49_58 : Code := codeA k49_57
def k49_59 : Code := codeB k49_57
theorem k49_57_c : C 49 k49_57 s = thenV (C 49 k49_58 s) (C 49 k49_59) := Qc_seq (a := k49_58) (b := k49_59) (by kernel_rfl) _ _
def k49_58_bef : List Nat := [0, 1, 3, 7, 0, 0, 32, 96, 224, 0, 992, 2016, 0, 8160, 16383, 32767]
theorem k49_58_c : C 49 k49_58 s = D 49 k49_58 k49_58_bef 0 [] s := Qc_draw (id := 19) (ops := regOps k49_58) (by kernel_rfl) (by kernel_rfl) (by kernel_rfl) (by kernel_rfl) s
theorem k49_58_0 : D 49 k49_58 k49_58_bef 0 dn s = stepD s (some 134) 0 k49_58_bef dn (some { v := (R s 0) }) (D 49 k49_58 k49_58_bef 1) := dR (by kernel_rfl)
theorem k49_58_1 : D 49 k49_58 k49_58_bef 1 dn s = stepD s (some 135) 1 k49_58_bef dn (xNilCheck Tryz.prog (R s 134)) (D 49 k49_58 k49_58_bef 2) := dR (by kernel_rfl)
theorem k49_58_2 : D 49 k49_58 k49_58_bef 2 dn s = stepD s (some 136) 2 k49_58_bef dn (val (addrAdd (R s 135) 4)) (D 49 k49_58 k49_58_bef 3) := dR (by kernel_rfl)
theorem k49_58_3 : D 49 k49_58 k49_58_bef 3 dn s = stepD s (some 137) 3 k49_58_bef dn (xLoad Tryz.prog 78 s.h.get (R s 136)) (D 49 k49_58 k49_58_bef 4) := dR (by kernel_rfl)
theorem k49_58_4 : D 49 k49_58 k49_58_bef 4 dn s = stepD s (some 138) 4 k49_58_bef dn (some { v := (R s 7) }) (D 49 k49_58 k49_58_bef 5) := dR (by kernel_rfl)
theorem k49_58_5 : D 49 k49_58 k49_58_bef 5 dn s = stepD s (some 139) 5 k49_58_bef dn (some { v := (R s 0) }) (D 49 k49_58 k49_58_bef 6) := dR (by kernel_rfl)
theorem k49_58_6 : D 49 k49_58 k49_58_bef 6 dn s = stepD s (some 140) 6 k49_58_bef dn (xNilCheck Tryz.prog (R s 139)) (D 49 k49_58 k49_58_bef 7) := dR (by kernel_rfl)
theorem k49_58_7 : D 49 k49_58 k49_58_bef 7 dn s = stepD s (some 141) 7 k49_58_bef dn (val (addrAdd (R s 140) 4)) (D 49 k49_58 k49_58_bef 8) := dR (by kernel_rfl)
theorem k49_58_8 : D 49 k49_58 k49_58_bef 8 dn s = stepD s (some 142) 8 k49_58_bef dn (xLoad Tryz.prog 78 s.h.get (R s 141)) (D 49 k49_58 k49_58_bef 9) := dR (by kernel_rfl)
theorem k49_58_9 : D 49 k49_58 k49_58_bef 9 dn s = stepD s (some 143) 9 k49_58_bef dn (some { v := (R s 7) }) (D 49 k49_58 k49_58_bef 10) := dR (by kernel_rfl)
theorem k49_58_10 : D 49 k49_58 k49_58_bef 10 dn s = stepD s (some 144) 10 k49_58_bef dn (val (indexAddr Tryz.prog 78 (R s 142) (R s 143))) (D 49 k49_58 k49_58_bef 11) := dR (by kernel_rfl)
theorem k49_58_11 : D 49 k49_58 k49_58_bef 11 dn s = stepD s (some 145) 11 k49_58_bef dn (xLoad Tryz.prog 27 s.h.get (R s 144)) (D 49 k49_58 k49_58_bef 12) := dR (by kernel_rfl)
theorem k49_58_12 : D 49 k49_58 k49_58_bef 12 dn s = stepD s (some 146) 12 k49_58_bef dn (some { v := (R s 10) }) (D 49 k49_58 k49_58_bef 13) := dR (by kernel_rfl)
theorem k49_58_13 : D 49 k49_58 k49_58_bef 13 dn s = stepD s (some 147) 13 k49_58_bef dn (builtinV Tryz.prog false s.h.get s.h.n .append [27, 27] [(R s 145), (R s 146)]) (D 49 k49_58 k49_58_bef 14) := dR (by kernel_rfl)
theorem k49_58_14 : D 49 k49_58 k49_58_bef 14 dn s = stepD s (some 148) 14 k49_58_bef dn (val (indexAddr Tryz.prog 78 (R s 137) (R s 138))) (D 49 k49_58 k49_58_bef 15) := dR (by kernel_rfl)
theorem k49_58_15 : D 49 k49_58 k49_58_bef 15 dn s = stepD s none 15 k49_58_bef dn (xStore Tryz.prog 27 s.h.get (R s 148) (R s 147)) (D 49 k49_58 k49_58_bef 16) := dR (by kernel_rfl)
theorem k49_58_16 : D 49 k49_58 k49_58_bef 16 dn s = some [(.normal, s)] := Qd_end (by kernel_rfl) dn s
def k49_60 : Code := codeA k49_59
def k49_61 : Code := codeB k49_59
theorem k49_59_c : C 49 k49_59 s = thenV (C 49 k49_60 s) (C 49 k49_61) := Qc_seq (a := k49_60) (b := k49_61) (by kernel_rfl) _ _
theorem k49_60_c : C 49 k49_60 s = O 49 k49_60 0 s := Qc_region (id := 20) (ops := regOps k49_60) (by kernel_rfl) (by kernel_rfl) s
theorem k49_60_0 : O 49 k49_60 0 s = stepV s (some 149) (some { v := (R s 10) }) (O 49 k49_60 1) := oR (by kernel_rfl)
theorem k49_60_1 : O 49 k49_60 1 s = stepV s (some 150) (builtinV Tryz.prog false s.h.get s.h.n .len [27] [(R s 149)]) (O 49 k49_60 2) := oR (by kernel_rfl)
theorem k49_60_2 : O 49 k49_60 2 s = stepV s (some 151) (some { v := (.int .i64 (0)) }) (O 49 k49_60 3) := oR (by kernel_rfl)
theorem k49_60_3 : O 49 k49_60 3 s = some [(.normal, s)] := Qo_end (by kernel_rfl) s
def k49_62 : Code := codeA k49_61
theorem k49_61_c : C 49 k49_61 s = blockV 4 (C 49 k49_62 s) := Qc_block (b := k49_62) (by kernel_rfl) _ _
def k49_63 : Code := codeA k49_62
theorem k49_62_l : C 49 k49_62 s = thenV (C 49 k49_63 s) (C 49 k49_62) := Qc_loop (b := k49_63) (by kernel_rfl) _ _
def k49_64 : Code := codeA k49_63
def k49_65 : Code := codeB k49_63
theorem k49_63_c : C 49 k49_63 s = thenV (C 49 k49_64 s) (C 49 k49_65) := Qc_seq (a := k49_64) (b := k49_65) (by kernel_rfl) _ _
theorem k49_64_c : C 49 k49_64 s = O 49 k49_64 0 s := Qc_region (id := 21) (ops := regOps k49_64) (by kernel_rfl) (by kernel_rfl) s
theorem k49_64_0 : O 49 k49_64 0 s = stepV s (some 152) (val (binV Tryz.prog .lss 3 false false (R s 151) (R s 150))) (O 49 k49_64 1) := oR (by kernel_rfl)
theorem k49_64_1 : O 49 k49_64 1 s = some [(.normal, s)] := Qo_end (by kernel_rfl) s
def k49_66 : Code := codeA k49_65
def k49_67 : Code := codeB k49_65
theorem k49_65_c : C 49 k49_65 s = thenV (C 49 k49_66 s) (C 49 k49_67) := Qc_seq (a := k49_66) (b := k49_67) (by kernel_rfl) _ _
def k49_68 : Code := codeA k49_66
def k49_69 : Code := codeB k49_66
theorem k49_66_c : C 49 k49_66 s = condV (R s 152) (C 49 k49_68) (C 49 k49_69) s := Qc_cond (t := 152) (a := k49_68) (b := k49_69) (by kernel_rfl) _ _
theorem k49_68_c : C 49 k49_68 s = some [(.normal, s)] := Qc_skip (by kernel_rfl) _ _
theorem k49_69_c : C 49 k49_69 s = some [(.exit 4, s)] := Qc_exit (by kernel_rfl) _ _
def k49_70 : Code := codeA k49_67
def k49_71 : Code := codeB k49_67
theorem k49_67_c : C 49 k49_67 s = thenV (C 49 k49_70 s) (C 49 k49_71) := Qc_seq (a := k49_70) (b := k49_71) (by kernel_rfl) _ _
def k49_72 : Code := codeA k49_70
theorem k49_70_c : C 49 k49_70 s = blockV 5 (C 49 k49_72 s) := Qc_block (b := k49_72) (by kernel_rfl) _ _
def k49_73 : Code := codeA k49_72
def k49_74 : Code := codeB k49_72
theorem k49_72_c : C 49 k49_72 s = thenV (C 49 k49_73 s) (C 49 k49_74) := Qc_seq (a := k49_73) (b := k49_74) (by kernel_rfl) _ _
theorem k49_73_c : C 49 k49_73 s = O 49 k49_73 0 s := Qc_region (id := 22) (ops := regOps k49_73) (by kernel_rfl) (by kernel_rfl) s
theorem k49_73_0 : O 49 k49_73 0 s = stepV s (some 153) (val (indexAddr Tryz.prog 27 (R s 149) (R s 151))) (O 49 k49_73 1) := oR (by kernel_rfl)
theorem k49_73_1 : O 49 k49_73 1 s = stepV s (some 154) (xLoad Tryz.prog 3 s.h.get (R s 153)) (O 49 k49_73 2) := oR (by kernel_rfl)
theorem k49_73_2 : O 49 k49_73 2 s = stepV s (some 12) (some { v := (R s 154) }) (O 49 k49_73 3) := oR (by kernel_rfl)
theorem k49_73_3 : O 49 k49_73 3 s = some [(.normal, s)] := Qo_end (by kernel_rfl) s
def k49_75 : Code := codeA k49_74
def k49_76 : Code := codeB k49_74
theorem k49_74_c : C 49 k49_74 s = thenV (C 49 k49_75 s) (C 49 k49_76) := Qc_seq (a := k49_75) (b := k49_76) (by kernel_rfl) _ _
def k49_75_bef : List Nat := [0, 1, 3, 7, 0, 0, 32, 96, 224, 496, 1023, 2047, 0, 8191]
theorem k49_75_c : C 49 k49_75 s = D 49 k49_75 k49_75_bef 0 [] s := Qc_draw (id := 23) (ops := regOps k49_75) (by kernel_rfl) (by kernel_rfl) (by kernel_rfl) (by kernel_rfl) s
theorem k49_75_0 : D 49 k49_75 k49_75_bef 0 dn s = stepD s (some 155) 0 k49_75_bef dn (some { v := (R s 0) }) (D 49 k49_75 k49_75_bef 1) := dR (by kernel_rfl)
theorem k49_75_1 : D 49 k49_75 k49_75_bef 1 dn s = stepD s (some 156) 1 k49_75_bef dn (xNilCheck Tryz.prog (R s 155)) (D 49 k49_75 k49_75_bef 2) := dR (by kernel_rfl)
theorem k49_75_2 : D 49 k49_75 k49_75_bef 2 dn s = stepD s (some 157) 2 k49_75_bef dn (val (addrAdd (R s 156) 1)) (D 49 k49_75 k49_75_bef 3) := dR (by kernel_rfl)
theorem k49_75_3 : D 49 k49_75 k49_75_bef 3 dn s = stepD s (some 158) 3 k49_75_bef dn (xLoad Tryz.prog 22 s.h.get (R s 157)) (D 49 k49_75 k49_75_bef 4) := dR (by kernel_rfl)
theorem k49_75_4 : D 49 k49_75 k49_75_bef 4 dn s = stepD s (some 159) 4 k49_75_bef dn (some { v := (R s 12) }) (D 49 k49_75 k49_75_bef 5) := dR (by kernel_rfl)
theorem k49_75_5 : D 49 k49_75 k49_75_bef 5 dn s = stepD s (some 160) 5 k49_75_bef dn (some { v := (R s 0) }) (D 49 k49_75 k49_75_bef 6) := dR (by kernel_rfl)
theorem k49_75_6 : D 49 k49_75 k49_75_bef 6 dn s = stepD s (some 161) 6 k49_75_bef dn (xNilCheck Tryz.prog (R s 160)) (D 49 k49_75 k49_75_bef 7) := dR (by kernel_rfl)
theorem k49_75_7 : D 49 k49_75 k49_75_bef 7 dn s = stepD s (some 162) 7 k49_75_bef dn (val (addrAdd (R s 161) 0)) (D 49 k49_75 k49_75_bef 8) := dR (by kernel_rfl)
theorem k49_75_8 : D 49 k49_75 k49_75_bef 8 dn s = stepD s (some 163) 8 k49_75_bef dn (xLoad Tryz.prog 3 s.h.get (R s 162)) (D 49 k49_75 k49_75_bef 9) := dR (by kernel_rfl)
theorem k49_75_9 : D 49 k49_75 k49_75_bef 9 dn s = stepD s (some 164) 9 k49_75_bef dn (val (binV Tryz.prog .sub 3 false false (R s 159) (R s 163))) (D 49 k49_75 k49_75_bef 10) := dR (by kernel_rfl)
theorem k49_75_10 : D 49 k49_75 k49_75_bef 10 dn s = stepD s (some 165) 10 k49_75_bef dn (val (indexAddr Tryz.prog 22 (R s 158) (R s 164))) (D 49 k49_75 k49_75_bef 11) := dR (by kernel_rfl)
theorem k49_75_11 : D 49 k49_75 k49_75_bef 11 dn s = stepD s (some 166) 11 k49_75_bef dn (xLoad Tryz.prog 42 s.h.get (R s 165)) (D 49 k49_75 k49_75_bef 12) := dR (by kernel_rfl)
theorem k49_75_12 : D 49 k49_75 k49_75_bef 12 dn s = stepD s (some 13) 12 k49_75_bef dn (some { v := .ptr s.h.n 0, nw := [.row 0 [.int .i64 (0), .int .i64 (0)]] }) (D 49 k49_75 k49_75_bef 13) := dR (by kernel_rfl)
theorem k49_75_13 : D 49 k49_75 k49_75_bef 13 dn s = stepD s none 13 k49_75_bef dn (xStore Tryz.prog 42 s.h.get (R s 13) (R s 166)) (D 49 k49_75 k49_75_bef 14) := dR (by kernel_rfl)
theorem k49_75_14 : D 49 k49_75 k49_75_bef 14 dn s = some [(.normal, s)] := Qd_end (by kernel_rfl) dn s
def k49_77 : Code := codeA k49_76
def k49_78 : Code := codeB k49_76
theorem k49_76_c : C 49 k49_76 s = thenV (C 49 k49_77 s) (C 49 k49_78) := Qc_seq (a := k49_77) (b := k49_78) (by kernel_rfl) _ _
def k49_77_bef : List Nat := [0, 1, 3, 7, 0, 16, 63, 127, 0, 256, 768, 1792, 0, 4096, 16128, 32512, 65535, 0, 262143]
theorem k49_77_c : C 49 k49_77 s = D 49 k49_77 k49_77_bef 0 [] s := Qc_draw (id := 24) (ops := regOps k49_77) (by kernel_rfl) (by kernel_rfl) (by kernel_rfl) (by kernel_rfl) s
theorem k49_77_0 : D 49 k49_77 k49_77_bef 0 dn s = stepD s (some 167) 0 k49_77_bef dn (some { v := (R s 0) }) (D 49 k49_77 k49_77_bef 1) := dR (by kernel_rfl)
theorem k49_77_1 : D 49 k49_77 k49_77_bef 1 dn s = stepD s (some 168) 1 k49_77_bef dn (xNilCheck Tryz.prog (R s 167)) (D 49 k49_77 k49_77_bef 2) := dR (by kernel_rfl)
theorem k49_77_2 : D 49 k49_77 k49_77_bef 2 dn s = stepD s (some 169) 2 k49_77_bef dn (val (addrAdd (R s 168) 2)) (D 49 k49_77 k49_77_bef 3) := dR (by kernel_rfl)
theorem k49_77_3 : D 49 k49_77 k49_77_bef 3 dn s = stepD s (some 170) 3 k49_77_bef dn (xLoad Tryz.prog 27 s.h.get (R s 169)) (D 49 k49_77 k49_77_bef 4) := dR (by kernel_rfl)
theorem k49_77_4 : D 49 k49_77 k49_77_bef 4 dn s = stepD s (some 171) 4 k49_77_bef dn (val (indexAddr Tryz.prog 42 (R s 13) (.int .i64 (0)))) (D 49 k49_77 k49_77_bef 5) := dR (by kernel_rfl)
theorem k49_77_5 : D 49 k49_77 k49_77_bef 5 dn s = stepD s (some 172) 5 k49_77_bef dn (xLoad Tryz.prog 3 s.h.get (R s 171)) (D 49 k49_77 k49_77_bef 6) := dR (by kernel_rfl)
theorem k49_77_6 : D 49 k49_77 k49_77_bef 6 dn s = stepD s (some 173) 6 k49_77_bef dn (val (indexAddr Tryz.prog 27 (R s 170) (R s 172))) (D 49 k49_77 k49_77_bef 7) := dR (by kernel_rfl)
theorem k49_77_7 : D 49 k49_77 k49_77_bef 7 dn s = stepD s (some 174) 7 k49_77_bef dn (xLoad Tryz.prog 3 s.h.get (R s 173)) (D 49 k49_77 k49_77_bef 8) := dR (by kernel_rfl)
theorem k49_77_8 : D 49 k49_77 k49_77_bef 8 dn s = stepD s (some 175) 8 k49_77_bef dn (some { v := (R s 0) }) (D 49 k49_77 k49_77_bef 9) := dR (by kernel_rfl)
theorem k49_77_9 : D 49 k49_77 k49_77_bef 9 dn s = stepD s (some 176) 9 k49_77_bef dn (xNilCheck Tryz.prog (R s 175)) (D 49 k49_77 k49_77_bef 10) := dR (by kernel_rfl)
theorem k49_77_10 : D 49 k49_77 k49_77_bef 10 dn s = stepD s (some 177) 10 k49_77_bef dn (val (addrAdd (R s 176) 2)) (D 49 k49_77 k49_77_bef 11) := dR (by kernel_rfl)
theorem k49_77_11 : D 49 k49_77 k49_77_bef 11 dn s = stepD s (some 178) 11 k49_77_bef dn (xLoad Tryz.prog 27 s.h.get (R s 177)) (D 49 k49_77 k49_77_bef 12) := dR (by kernel_rfl)
theorem k49_77_12 : D 49 k49_77 k49_77_bef 12 dn s = stepD s (some 179) 12 k49_77_bef dn (val (indexAddr Tryz.prog 42 (R s 13) (.int .i64 (1)))) (D 49 k49_77 k49_77_bef 13) := dR (by kernel_rfl)
theorem k49_77_13 : D 49 k49_77 k49_77_bef 13 dn s = stepD s (some 180) 13 k49_77_bef dn (xLoad Tryz.prog 3 s.h.get (R s 179)) (D 49 k49_77 k49_77_bef 14) := dR (by kernel_rfl)
theorem k49_77_14 : D 49 k49_77 k49_77_bef 14 dn s = stepD s (some 181) 14 k49_77_bef dn (val (indexAddr Tryz.prog 27 (R s 178) (R s 180))) (D 49 k49_77 k49_77_bef 15) := dR (by kernel_rfl)
theorem k49_77_15 : D 49 k49_77 k49_77_bef 15 dn s = stepD s (some 182) 15 k49_77_bef dn (xLoad Tryz.prog 3 s.h.get (R s 181)) (D 49 k49_77 k49_77_bef 16) := dR (by kernel_rfl)
theorem k49_77_16 : D 49 k49_77 k49_77_bef 16 dn s = stepD s (some 183) 16 k49_77_bef dn (val (build Tryz.prog 170 [(0, (R s 174)), (1, (R s 182))])) (D 49 k49_77 k49_77_bef 17) := dR (by kernel_rfl)
theorem k49_77_17 : D 49 k49_77 k49_77_bef 17 dn s = stepD s (some 14) 17 k49_77_bef dn (some { v := .ptr s.h.n 0, nw := [.row 0 [.int .i64 (0), .int .i64 (0)]] }) (D 49 k49_77 k49_77_bef 18) := dR (by kernel_rfl)
theorem k49_77_18 : D 49 k49_77 k49_77_bef 18 dn s = stepD s none 18 k49_77_bef dn (xStore Tryz.prog 170 s.h.get (R s 14) (R s 183)) (D 49 k49_77 k49_77_bef 19) := dR (by kernel_rfl)
theorem k49_77_19 : D 49 k49_77 k49_77_bef 19 dn s = some [(.normal, s)] := Qd_end (by kernel_rfl) dn s
def k49_79 : Code := codeA k49_78
def k49_80 : Code := codeB k49_78
theorem k49_78_c : C 49 k49_78 s = thenV (C 49 k49_79 s) (C 49 k49_80) := Qc_seq (a := k49_79) (b := k49_80) (by kernel_rfl) _ _
def k49_79_bef : List Nat := [0, 1, 3, 7, 0, 31, 63, 127, 127, 255, 1023]
theorem k49_79_c : C 49 k49_79 s = D 49 k49_79 k49_79_bef 0 [] s := Qc_draw (id := 25) (ops := regOps k49_79) (by kernel_rfl) (by kernel_rfl) (by kernel_rfl) (by kernel_rfl) s
theorem k49_79_0 : D 49 k49_79 k49_79_bef 0 dn s = stepD s (some 185) 0 k49_79_bef dn (some { v := (R s 0) }) (D 49 k49_79 k49_79_bef 1) := dR (by kernel_rfl)
theorem k49_79_1 : D 49 k49_79 k49_79_bef 1 dn s = stepD s (some 186) 1 k49_79_bef dn (xNilCheck Tryz.prog (R s 185)) (D 49 k49_79 k49_79_bef 2) := dR (by kernel_rfl)
theorem k49_79_2 : D 49 k49_79 k49_79_bef 2 dn s = stepD s (some 187) 2 k49_79_bef dn (val (addrAdd (R s 186) 5)) (D 49 k49_79 k49_79_bef 3) := dR (by kernel_rfl)
theorem k49_79_3 : D 49 k49_79 k49_79_bef 3 dn s = stepD s (some 188) 3 k49_79_bef dn (xLoad Tryz.prog 79 s.h.get (R s 187)) (D 49 k49_79 k49_79_bef 4) := dR (by kernel_rfl)
theorem k49_79_4 : D 49 k49_79 k49_79_bef 4 dn s = stepD s (some 189) 4 k49_79_bef dn (xLoad Tryz.prog 170 s.h.get (R s 14)) (D 49 k49_79 k49_79_bef 5) := dR (by kernel_rfl)
theorem k49_79_5 : D 49 k49_79 k49_79_bef 5 dn s = stepD s (some 190) 5 k49_79_bef dn (lookup Tryz.prog s.h.get 79 (R s 188) (R s 189) true) (D 49 k49_79 k49_79_bef 6) := dR (by kernel_rfl)
theorem k49_79_6 : D 49 k49_79 k49_79_bef 6 dn s = stepD s (some 184) 6 k49_79_bef dn (some { v := (R s 190) }) (D 49 k49_79 k49_79_bef 7) := dR (by kernel_rfl)
theorem k49_79_7 : D 49 k49_79 k49_79_bef 7 dn s = stepD s (some 191) 7 k49_79_bef dn (xExtract (R s 184) 0) (D 49 k49_79 k49_79_bef 8) := dR (by kernel_rfl)
theorem k49_79_8 : D 49 k49_79 k49_79_bef 8 dn s = stepD s (some 192) 8 k49_79_bef dn (xExtract (R s 184) 1) (D 49 k49_79 k49_79_bef 9) := dR (by kernel_rfl)
theorem k49_79_9 : D 49 k49_79 k49_79_bef 9 dn s = stepD s (some 15) 9 k49_79_bef dn (some { v := (R s 191) }) (D 49 k49_79 k49_79_bef 10) := dR (by kernel_rfl)
theorem k49_79_10 : D 49 k49_79 k49_79_bef 10 dn s = stepD s (some 16) 10 k49_79_bef dn (some { v := (R s 192) }) (D 49 k49_79 k49_79_bef 11) := dR (by kernel_rfl)
theorem k49_79_11 : D 49 k49_79 k49_79_bef 11 dn s = some [(.normal, s)] := Qd_end (by kernel_rfl) dn s
def k49_81 : Code := codeA k49_80
def k49_82 : Code := codeB k49_80
theorem k49_80_c : C 49 k49_80 s = thenV (C 49 k49_81 s) (C 49 k49_82) := Qc_seq (a := k49_81) (b := k49_82) (by kernel_rfl) _ _
def k49_81_bef : List Nat := [0, 1, 3, 7, 15, 31, 3, 127, 255, 3, 515, 1539, 3587, 3, 15875, 32259, 65535, 131071]
theorem k49_81_c : C 49 k49_81 s = D 49 k49_81 k49_81_bef 0 [] s := Qc_draw (id := 26) (ops := regOps k49_81) (by kernel_rfl) (by kernel_rfl) (by kernel_rfl) (by kernel_rfl) s
theorem k49_81_0 : D 49 k49_81 k49_81_bef 0 dn s = stepD s (some 193) 0 k49_81_bef dn (some { v := (R s 16) }) (D 49 k49_81 k49_81_bef 1) := dR (by kernel_rfl)
theorem k49_81_1 : D 49 k49_81 k49_81_bef 1 dn s = stepD s (some 194) 1 k49_81_bef dn (some { v := (R s 193) }) (D 49 k49_81 k49_81_bef 2) := dR (by kernel_rfl)
theorem k49_81_2 : D 49 k49_81 k49_81_bef 2 dn s = if wantB (R s 194) true = true then stepD s (some 195) 2 k49_81_bef dn (some { v := (R s 0) }) (D 49 k49_81 k49_81_bef 3) else D 49 k49_81 k49_81_bef 3 dn (skipS s (some 195)) := dI (by kernel_rfl)
theorem k49_81_3 : D 49 k49_81 k49_81_bef 3 dn s = if wantB (R s 194) true = true then stepD s (some 196) 3 k49_81_bef dn (xNilCheck Tryz.prog (R s 195)) (D 49 k49_81 k49_81_bef 4) else D 49 k49_81 k49_81_bef 4 dn (skipS s (some 196)) := dI (by kernel_rfl)
theorem k49_81_4 : D 49 k49_81 k49_81_bef 4 dn s = if wantB (R s 194) true = true then stepD s (some 197) 4 k49_81_bef dn (val (addrAdd (R s 196) 2)) (D 49 k49_81 k49_81_bef 5) else D 49 k49_81 k49_81_bef 5 dn (skipS s (some 197)) := dI (by kernel_rfl)
theorem k49_81_5 : D 49 k49_81 k49_81_bef 5 dn s = if wantB (R s 194) true = true then stepD s (some 198) 5 k49_81_bef dn (xLoad Tryz.prog 27 s.h.get (R s 197)) (D 49 k49_81 k49_81_bef 6) else D 49 k49_81 k49_81_bef 6 dn (skipS s (some 198)) := dI (by kernel_rfl)
theorem k49_81_6 : D 49 k49_81 k49_81_bef 6 dn s = if wantB (R s 194) true = true then stepD s (some 199) 6 k49_81_bef dn (some { v := (R s 15) }) (D 49 k49_81 k49_81_bef 7) else D 49 k49_81 k49_81_bef 7 dn (skipS s (some 199)) := dI (by kernel_rfl)
theorem k49_81_7 : D 49 k49_81 k49_81_bef 7 dn s = if wantB (R s 194) true = true then stepD s (some 200) 7 k49_81_bef dn (val (indexAddr Tryz.prog 27 (R s 198) (R s 199))) (D 49 k49_81 k49_81_bef 8) else D 49 k49_81 k49_81_bef 8 dn (skipS s (some 200)) := dI (by kernel_rfl)
theorem k49_81_8 : D 49 k49_81 k49_81_bef 8 dn s = if wantB (R s 194) true = true then stepD s (some 201) 8 k49_81_bef dn (xLoad Tryz.prog 3 s.h.get (R s 200)) (D 49 k49_81 k49_81_bef 9) else D 49 k49_81 k49_81_bef 9 dn (skipS s (some 201)) := dI (by kernel_rfl)
theorem k49_81_9 : D 49 k49_81 k49_81_bef 9 dn s = if wantB (R s 194) true = true then stepD s (some 202) 9 k49_81_bef dn (some { v := (R s 0) }) (D 49 k49_81 k49_81_bef 10) else D 49 k49_81 k49_81_bef 10 dn (skipS s (some 202)) := dI (by kernel_rfl)
theorem k49_81_10 : D 49 k49_81 k49_81_bef 10 dn s = if wantB (R s 194) true = true then stepD s (some 203) 10 k49_81_bef dn (xNilCheck Tryz.prog (R s 202)) (D 49 k49_81 k49_81_bef 11) else D 49 k49_81 k49_81_bef 11 dn (skipS s (some 203)) := dI (by kernel_rfl)
theorem k49_81_11 : D 49 k49_81 k49_81_bef 11 dn s = if wantB (R s 194) true = true then stepD s (some 204) 11 k49_81_bef dn (val (addrAdd (R s 203) 2)) (D 49 k49_81 k49_81_bef 12) else D 49 k49_81 k49_81_bef 12 dn (skipS s (some 204)) := dI (by kernel_rfl)
theorem k49_81_12 : D 49 k49_81 k49_81_bef 12 dn s = if wantB (R s 194) true = true then stepD s (some 205) 12 k49_81_bef dn (xLoad Tryz.prog 27 s.h.get (R s 204)) (D 49 k49_81 k49_81_bef 13) else D 49 k49_81 k49_81_bef 13 dn (skipS s (some 205)) := dI (by kernel_rfl)
theorem k49_81_13 : D 49 k49_81 k49_81_bef 13 dn s = if wantB (R s 194) true = true then stepD s (some 206) 13 k49_81_bef dn (some { v := (R s 12) }) (D 49 k49_81 k49_81_bef 14) else D 49 k49_81 k49_81_bef 14 dn (skipS s (some 206)) := dI (by kernel_rfl)
theorem k49_81_14 : D 49 k49_81 k49_81_bef 14 dn s = if wantB (R s 194) true = true then stepD s (some 207) 14 k49_81_bef dn (val (indexAddr Tryz.prog 27 (R s 205) (R s 206))) (D 49 k49_81 k49_81_bef 15) else D 49 k49_81 k49_81_bef 15 dn (skipS s (some 207)) := dI (by kernel_rfl)
theorem k49_81_15 : D 49 k49_81 k49_81_bef 15 dn s = if wantB (R s 194) true = true then stepD s (some 208) 15 k49_81_bef dn (xLoad Tryz.prog 3 s.h.get (R s 207)) (D 49 k49_81 k49_81_bef 16) else D 49 k49_81 k49_81_bef 16 dn (skipS s (some 208)) := dI (by kernel_rfl)
theorem k49_81_16 : D 49 k49_81 k49_81_bef 16 dn s = if wantB (R s 194) true = true then stepD s (some 209) 16 k49_81_bef dn (val (binV Tryz.prog .neq 3 false false (R s 201) (R s 208))) (D 49 k49_81 k49_81_bef 17) else D 49 k49_81 k49_81_bef 17 dn (skipS s (some 209)) := dI (by kernel_rfl)
theorem k49_81_17 : D 49 k49_81 k49_81_bef 17 dn s = stepD s (some 210) 17 k49_81_bef dn (xPick (R s 194) (R s 209) (.bool false)) (D 49 k49_81 k49_81_bef 18) := dR (by kernel_rfl)
theorem k49_81_18 : D 49 k49_81 k49_81_bef 18 dn s = some [(.normal, s)] := Qd_end (by kernel_rfl) dn s
def k49_83 : Code := codeA k49_82
def k49_84 : Code := codeB k49_82
theorem k49_82_c : C 49 k49_82 s = condV (R s 210) (C 49 k49_83) (C 49 k49_84) s := Qc_cond (t := 210) (a := k49_83) (b := k49_84) (by kernel_rfl) _ _
theorem k49_83_c : C 49 k49_83 s = O 49 k49_83 0 s := Qc_region (id := 27) (ops := regOps k49_83) (by kernel_rfl) (by kernel_rfl) s
theorem k49_83_0 : O 49 k49_83 0 s = stepV s (some 211) (some { v := (R s 4) }) (O 49 k49_83 1) := oR (by kernel_rfl)
theorem k49_83_1 : O 49 k49_83 1 s = stepV s (some 212) (some { v := (R s 12) }) (O 49 k49_83 2) := oR (by kernel_rfl)
theorem k49_83_2 : O 49 k49_83 2 s = stepV s (some 213) (some { v := (R s 15) }) (O 49 k49_83 3) := oR (by kernel_rfl)
theorem k49_83_3 : O 49 k49_83 3 s = stepV s (some 214) (val (build Tryz.prog 126 [(0, (R s 212)), (1, (R s 213)), (2, (.int .i64 (-1)))])) (O 49 k49_83 4) := oR (by kernel_rfl)
theorem k49_83_4 : O 49 k49_83 4 s = stepV s (some 215) (litS Tryz.prog false 80 1 [(0, (R s 214))] s.h.n) (O 49 k49_83 5) := oR (by kernel_rfl)
theorem k49_83_5 : O 49 k49_83 5 s = stepV s (some 216) (builtinV Tryz.prog false s.h.get s.h.n .append [80, 80] [(R s 211), (R s 215)]) (O 49 k49_83 6) := oR (by kernel_rfl)
theorem k49_83_6 : O 49 k49_83 6 s = stepV s (some 4) (some { v := (R s 216) }) (O 49 k49_83 7) := oR (by kernel_rfl)
theorem k49_83_7 : O 49 k49_83 7 s = some [(.normal, s)] := Qo_end (by kernel_rfl) s
def k49_84_bef : List Nat := [0, 1, 3, 7, 0, 0, 63]
theorem k49_84_c : C 49 k49_84 s = D 49 k49_84 k49_84_bef 0 [] s := Qc_draw (id := 28) (ops := regOps k49_84) (by kernel_rfl) (by kernel_rfl) (by kernel_rfl) (by kernel_rfl) s
theorem k49_84_0 : D 49 k49_84 k49_84_bef 0 dn s = stepD s (some 217) 0 k49_84_bef dn (some { v := (R s 0) }) (D 49 k49_84 k49_84_bef 1) := dR (by kernel_rfl)
theorem k49_84_1 : D 49 k49_84 k49_84_bef 1 dn s = stepD s (some 218) 1 k49_84_bef dn (xNilCheck Tryz.prog (R s 217)) (D 49 k49_84 k49_84_bef 2) := dR (by kernel_rfl)
theorem k49_84_2 : D 49 k49_84 k49_84_bef 2 dn s = stepD s (some 219) 2 k49_84_bef dn (val (addrAdd (R s 218) 5)) (D 49 k49_84 k49_84_bef 3) := dR (by kernel_rfl)
theorem k49_84_3 : D 49 k49_84 k49_84_bef 3 dn s = stepD s (some 220) 3 k49_84_bef dn (xLoad Tryz.prog 79 s.h.get (R s 219)) (D 49 k49_84 k49_84_bef 4) := dR (by kernel_rfl)
theorem k49_84_4 : D 49 k49_84 k49_84_bef 4 dn s = stepD s (some 221) 4 k49_84_bef dn (xLoad Tryz.prog 170 s.h.get (R s 14)) (D 49 k49_84 k49_84_bef 5) := dR (by kernel_rfl)
theorem k49_84_5 : D 49 k49_84 k49_84_bef 5 dn s = stepD s (some 222) 5 k49_84_bef dn (some { v := (R s 12) }) (D 49 k49_84 k49_84_bef 6) := dR (by kernel_rfl)
theorem k49_84_6 : D 49 k49_84 k49_84_bef 6 dn s = stepD s none 6 k49_84_bef dn (mapUpdate Tryz.prog s.h.get 79 (R s 220) (R s 221) (R s 222)) (D 49 k49_84 k49_84_bef 7) := dR (by kernel_rfl)
theorem k49_84_7 : D 49 k49_84 k49_84_bef 7 dn s = some [(.normal, s)] := Qd_end (by kernel_rfl) dn s
theorem k49_71_c : C 49 k49_71 s = O 49 k49_71 0 s := Qc_region (id := 29) (ops := regOps k49_71) (by kernel_rfl) (by kernel_rfl) s
theorem k49_71_0 : O 49 k49_71 0 s = stepV s (some 223) (val (binV Tryz.prog .add 3 false true (R s 151) (.int .i64 (1)))) (O 49 k49_71 1) := oR (by kernel_rfl)
theorem k49_71_1 : O 49 k49_71 1 s = stepV s (some 151) (some { v := (R s 223) }) (O 49 k49_71 2) := oR (by kernel_rfl)
theorem k49_71_2 : O 49 k49_71 2 s = some [(.normal, s)] := Qo_end (by kernel_rfl) s
end Go.Proofs.YtdlaladdeelegaaGreat.Cg
end
