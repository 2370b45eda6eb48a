/- Equations of the code. -/
import Derived.Test.YtdlaladdeelegaaGreatE2
import Derived.KernelRfl
set_option linter.all false
noncomputable section
namespace Go.Proofs.YtdlaladdeelegaaGreat.Cg
open Go Go.Ae
variable (dn : List (Nat × Foot)) (s : St)
def k5 : Code := Tryz.f5.body.getD .skip
theorem k5_fun (args : List V) (ha : args.length ≤ 200) (h : H) : (EV Tryz.prog hs ks).call 5 args h = endsV Tryz.prog hs ks Tryz.f5 (C 5 k5 (S 200 (setF args 0 fun _ => undefV) [] h)) := EV_fun Tryz.func5 (by kernel_rfl) (by kernel_rfl) (by decide) rfl ha h
theorem k5_ret (f : Nat → V) (h : H) : endsV Tryz.prog hs ks Tryz.f5 (some [(.ret, S 200 f [] h)]) = resV (resultVs Tryz.prog (S 200 f [] h) [.tmp 2]) h := ends_one (by kernel_rfl) (Or.inl rfl) _ _
def k5_0 : Code := codeA k5
def k5_1 : Code := codeB k5
theorem k5_c : C 5 k5 s = thenV (C 5 k5_0 s) (C 5 k5_1) := Qc_seq (a := k5_0) (b := k5_1) (by kernel_rfl) _ _
theorem k5_0_c : C 5 k5_0 s = O 5 k5_0 0 s := Qc_region (id := 0) (ops := regOps k5_0) (by kernel_rfl) (by kernel_rfl) s
theorem k5_0_0 : O 5 k5_0 0 s = stepV s (some 1) (some { v := .ptr s.h.n 0, nw := [.row 0 (V.cells (R s 0))] }) (O 5 k5_0 1) := oR (by kernel_rfl)
theorem k5_0_1 : O 5 k5_0 1 s = stepV s (some 2) (some { v := (.bool false) }) (O 5 k5_0 2) := oR (by kernel_rfl)
theorem k5_0_2 : O 5 k5_0 2 s = some [(.normal, s)] := Qo_end (by kernel_rfl) s
def k5_2 : Code := codeA k5_1
def k5_3 : Code := codeB k5_1
theorem k5_1_c : C 5 k5_1 s = thenV (C 5 k5_2 s) (C 5 k5_3) := Qc_seq (a := k5_2) (b := k5_3) (by kernel_rfl) _ _
def k5_4 : Code := codeA k5_2
def k5_5 : Code := codeB k5_2
theorem k5_2_c : C 5 k5_2 s = thenV (C 5 k5_4 s) (C 5 k5_5) := Qc_seq (a := k5_4) (b := k5_5) (by kernel_rfl) _ _
theorem k5_4_c : C 5 k5_4 s = O 5 k5_4 0 s := Qc_region (id := 1) (ops := regOps k5_4) (by kernel_rfl) (by kernel_rfl) s
theorem k5_4_0 : O 5 k5_4 0 s = stepV s (some 13) (val (addrAdd (R s 1) 0)) (O 5 k5_4 1) := oR (by kernel_rfl)
theorem k5_4_1 : O 5 k5_4 1 s = stepV s (some 14) (xLoad Tryz.prog 3 s.h.get (R s 13)) (O 5 k5_4 2) := oR (by kernel_rfl)
theorem k5_4_2 : O 5 k5_4 2 s = stepV s (some 15) (val (addrAdd (R s 1) 1)) (O 5 k5_4 3) := oR (by kernel_rfl)
theorem k5_4_3 : O 5 k5_4 3 s = stepV s (some 16) (xLoad Tryz.prog 22 s.h.get (R s 15)) (O 5 k5_4 4) := oR (by kernel_rfl)
theorem k5_4_4 : O 5 k5_4 4 s = stepV s (some 17) (val (addrAdd (R s 1) 2)) (O 5 k5_4 5) := oR (by kernel_rfl)
theorem k5_4_5 : O 5 k5_4 5 s = stepV s (some 18) (xLoad Tryz.prog 22 s.h.get (R s 17)) (O 5 k5_4 6) := oR (by kernel_rfl)
theorem k5_4_6 : O 5 k5_4 6 s = thenC (some 19) s (callS Tryz.prog hs ks 7 [(R s 14), (R s 16), (R s 18)] s.h) (O 5 k5_4 7) := cR (by kernel_rfl)
theorem k5_4_7 : O 5 k5_4 7 s = stepV s (some 20) (xUn .not (R s 19)) (O 5 k5_4 8) := oR (by kernel_rfl)
theorem k5_4_8 : O 5 k5_4 8 s = some [(.normal, s)] := Qo_end (by kernel_rfl) s
def k5_6 : Code := codeA k5_5
def k5_7 : Code := codeB k5_5
theorem k5_5_c : C 5 k5_5 s = condV (R s 20) (C 5 k5_6) (C 5 k5_7) s := Qc_cond (t := 20) (a := k5_6) (b := k5_7) (by kernel_rfl) _ _
def k5_8 : Code := codeA k5_6
def k5_9 : Code := codeB k5_6
theorem k5_6_c : C 5 k5_6 s = thenV (C 5 k5_8 s) (C 5 k5_9) := Qc_seq (a := k5_8) (b := k5_9) (by kernel_rfl) _ _
theorem k5_8_c : C 5 k5_8 s = O 5 k5_8 0 s := Qc_region (id := 2) (ops := regOps k5_8) (by kernel_rfl) (by kernel_rfl) s
theorem k5_8_0 : O 5 k5_8 0 s = thenC (some 21) s (callS Tryz.prog hs ks 8 [] s.h) (O 5 k5_8 1) := cR (by kernel_rfl)
theorem k5_8_1 : O 5 k5_8 1 s = stepV s (some 2) (some { v := (R s 21) }) (O 5 k5_8 2) := oR (by kernel_rfl)
theorem k5_8_2 : O 5 k5_8 2 s = some [(.normal, s)] := Qo_end (by kernel_rfl) s
theorem k5_9_c : C 5 k5_9 s = some [(.ret, s)] := Qc_ret (by kernel_rfl) _ _
theorem k5_7_c : C 5 k5_7 s = some [(.normal, s)] := Qc_skip (by kernel_rfl) _ _
def k5_10 : Code := codeA k5_3
def k5_11 : Code := codeB k5_3
theorem k5_3_c : C 5 k5_3 s = thenV (C 5 k5_10 s) (C 5 k5_11) := Qc_seq (a := k5_10) (b := k5_11) (by kernel_rfl) _ _
theorem k5_10_c : C 5 k5_10 s = O 5 k5_10 0 s := Qc_region (id := 3) (ops := regOps k5_10) (by kernel_rfl) (by kernel_rfl) s
theorem k5_10_0 : O 5 k5_10 0 s = stepV s (some 23) (val (addrAdd (R s 1) 0)) (O 5 k5_10 1) := oR (by kernel_rfl)
theorem k5_10_1 : O 5 k5_10 1 s = stepV s (some 24) (xLoad Tryz.prog 3 s.h.get (R s 23)) (O 5 k5_10 2) := oR (by kernel_rfl)
theorem k5_10_2 : O 5 k5_10 2 s = stepV s (some 25) (val (addrAdd (R s 1) 1)) (O 5 k5_10 3) := oR (by kernel_rfl)
theorem k5_10_3 : O 5 k5_10 3 s = stepV s (some 26) (xLoad Tryz.prog 22 s.h.get (R s 25)) (O 5 k5_10 4) := oR (by kernel_rfl)
theorem k5_10_4 : O 5 k5_10 4 s = stepV s (some 27) (val (addrAdd (R s 1) 2)) (O 5 k5_10 5) := oR (by kernel_rfl)
theorem k5_10_5 : O 5 k5_10 5 s = stepV s (some 28) (xLoad Tryz.prog 22 s.h.get (R s 27)) (O 5 k5_10 6) := oR (by kernel_rfl)
theorem k5_10_6 : O 5 k5_10 6 s = thenC (some 29) s (callS Tryz.prog hs ks 9 [(R s 24), (R s 26), (R s 28)] s.h) (O 5 k5_10 7) := cR (by kernel_rfl)
theorem k5_10_7 : O 5 k5_10 7 s = stepV s (some 22) (some { v := (R s 29) }) (O 5 k5_10 8) := oR (by kernel_rfl)
theorem k5_10_8 : O 5 k5_10 8 s = stepV s (some 30) (xExtract (R s 22) 0) (O 5 k5_10 9) := oR (by kernel_rfl)
theorem k5_10_9 : O 5 k5_10 9 s = stepV s (some 31) (xExtract (R s 22) 1) (O 5 k5_10 10) := oR (by kernel_rfl)
theorem k5_10_10 : O 5 k5_10 10 s = stepV s (some 3) (some { v := (R s 30) }) (O 5 k5_10 11) := oR (by kernel_rfl)
theorem k5_10_11 : O 5 k5_10 11 s = stepV s (some 4) (some { v := (R s 31) }) (O 5 k5_10 12) := oR (by kernel_rfl)
theorem k5_10_12 : O 5 k5_10 12 s = some [(.normal, s)] := Qo_end (by kernel_rfl) s
def k5_12 : Code := codeA k5_11
def k5_13 : Code := codeB k5_11
theorem k5_11_c : C 5 k5_11 s = thenV (C 5 k5_12 s) (C 5 k5_13) := Qc_seq (a := k5_12) (b := k5_13) (by kernel_rfl) _ _
def k5_14 : Code := codeA k5_12
def k5_15 : Code := codeB k5_12
theorem k5_12_c : C 5 k5_12 s = thenV (C 5 k5_14 s) (C 5 k5_15) := Qc_seq (a := k5_14) (b := k5_15) (by kernel_rfl) _ _
theorem k5_14_c : C 5 k5_14 s = O 5 k5_14 0 s := Qc_region (id := 4) (ops := regOps k5_14) (by kernel_rfl) (by kernel_rfl) s
theorem k5_14_0 : O 5 k5_14 0 s = stepV s (some 32) (some { v := (R s 4) }) (O 5 k5_14 1) := oR (by kernel_rfl)
theorem k5_14_1 : O 5 k5_14 1 s = stepV s (some 33) (val (binV Tryz.prog .neq 28 false true (R s 32) (.int .i64 (0)))) (O 5 k5_14 2) := oR (by kernel_rfl)
theorem k5_14_2 : O 5 k5_14 2 s = some [(.normal, s)] := Qo_end (by kernel_rfl) s
def k5_16 : Code := codeA k5_15
def k5_17 : Code := codeB k5_15
theorem k5_15_c : C 5 k5_15 s = condV (R s 33) (C 5 k5_16) (C 5 k5_17) s := Qc_cond (t := 33) (a := k5_16) (b := k5_17) (by kernel_rfl) _ _
def k5_18 : Code := codeA k5_16
def k5_19 : Code := codeB k5_16
theorem k5_16_c : C 5 k5_16 s = thenV (C 5 k5_18 s) (C 5 k5_19) := Qc_seq (a := k5_18) (b := k5_19) (by kernel_rfl) _ _
theorem k5_18_c : C 5 k5_18 s = O 5 k5_18 0 s := Qc_region (id := 5) (ops := regOps k5_18) (by kernel_rfl) (by kernel_rfl) s
theorem k5_18_0 : O 5 k5_18 0 s = stepV s (some 34) (some { v := (R s 3) }) (O 5 k5_18 1) := oR (by kernel_rfl)
theorem k5_18_1 : O 5 k5_18 1 s = stepV s (some 35) (builtinV Tryz.prog false s.h.get s.h.n .len [27] [(R s 34)]) (O 5 k5_18 2) := oR (by kernel_rfl)
theorem k5_18_2 : O 5 k5_18 2 s = stepV s (some 36) (val (binV Tryz.prog .eql 3 false true (R s 35) (.int .i64 (0)))) (O 5 k5_18 3) := oR (by kernel_rfl)
theorem k5_18_3 : O 5 k5_18 3 s = stepV s (some 37) (some { v := (R s 36) }) (O 5 k5_18 4) := oR (by kernel_rfl)
theorem k5_18_4 : O 5 k5_18 4 s = if wantB (R s 37) true = true then thenC (some 38) s (callS Tryz.prog hs ks 8 [] s.h) (O 5 k5_18 5) else O 5 k5_18 5 (skipS s (some 38)) := cI (by kernel_rfl)
theorem k5_18_5 : O 5 k5_18 5 s = stepV s (some 39) (xPick (R s 37) (R s 38) (.bool false)) (O 5 k5_18 6) := oR (by kernel_rfl)
theorem k5_18_6 : O 5 k5_18 6 s = stepV s (some 2) (some { v := (R s 39) }) (O 5 k5_18 7) := oR (by kernel_rfl)
theorem k5_18_7 : O 5 k5_18 7 s = some [(.normal, s)] := Qo_end (by kernel_rfl) s
theorem k5_19_c : C 5 k5_19 s = some [(.ret, s)] := Qc_ret (by kernel_rfl) _ _
theorem k5_17_c : C 5 k5_17 s = some [(.normal, s)] := Qc_skip (by kernel_rfl) _ _
def k5_20 : Code := codeA k5_13
def k5_21 : Code := codeB k5_13
theorem k5_13_c : C 5 k5_13 s = thenV (C 5 k5_20 s) (C 5 k5_21) := Qc_seq (a := k5_20) (b := k5_21) (by kernel_rfl) _ _
def k5_22 : Code := codeA k5_20
def k5_23 : Code := codeB k5_20
theorem k5_20_c : C 5 k5_20 s = thenV (C 5 k5_22 s) (C 5 k5_23) := Qc_seq (a := k5_22) (b := k5_23) (by kernel_rfl) _ _
theorem k5_22_c : C 5 k5_22 s = O 5 k5_22 0 s := Qc_region (id := 6) (ops := regOps k5_22) (by kernel_rfl) (by kernel_rfl) s
theorem k5_22_0 : O 5 k5_22 0 s = stepV s (some 40) (val (addrAdd (R s 1) 0)) (O 5 k5_22 1) := oR (by kernel_rfl)
theorem k5_22_1 : O 5 k5_22 1 s = stepV s (some 41) (xLoad Tryz.prog 3 s.h.get (R s 40)) (O 5 k5_22 2) := oR (by kernel_rfl)
theorem k5_22_2 : O 5 k5_22 2 s = stepV s (some 42) (val (binV Tryz.prog .lss 3 false true (R s 41) (.int .i64 (0)))) (O 5 k5_22 3) := oR (by kernel_rfl)
theorem k5_22_3 : O 5 k5_22 3 s = stepV s (some 43) (some { v := (R s 42) }) (O 5 k5_22 4) := oR (by kernel_rfl)
theorem k5_22_4 : O 5 k5_22 4 s = if wantB (R s 43) false = true then stepV s (some 44) (some { v := (R s 3) }) (O 5 k5_22 5) else O 5 k5_22 5 (skipS s (some 44)) := oI (by kernel_rfl)
theorem k5_22_5 : O 5 k5_22 5 s = if wantB (R s 43) false = true then stepV s (some 45) (builtinV Tryz.prog false s.h.get s.h.n .len [27] [(R s 44)]) (O 5 k5_22 6) else O 5 k5_22 6 (skipS s (some 45)) := oI (by kernel_rfl)
theorem k5_22_6 : O 5 k5_22 6 s = if wantB (R s 43) false = true then stepV s (some 46) (val (addrAdd (R s 1) 0)) (O 5 k5_22 7) else O 5 k5_22 7 (skipS s (some 46)) := oI (by kernel_rfl)
theorem k5_22_7 : O 5 k5_22 7 s = if wantB (R s 43) false = true then stepV s (some 47) (xLoad Tryz.prog 3 s.h.get (R s 46)) (O 5 k5_22 8) else O 5 k5_22 8 (skipS s (some 47)) := oI (by kernel_rfl)
theorem k5_22_8 : O 5 k5_22 8 s = if wantB (R s 43) false = true then stepV s (some 48) (val (addrAdd (R s 1) 1)) (O 5 k5_22 9) else O 5 k5_22 9 (skipS s (some 48)) := oI (by kernel_rfl)
theorem k5_22_9 : O 5 k5_22 9 s = if wantB (R s 43) false = true then stepV s (some 49) (xLoad Tryz.prog 22 s.h.get (R s 48)) (O 5 k5_22 10) else O 5 k5_22 10 (skipS s (some 49)) := oI (by kernel_rfl)
theorem k5_22_10 : O 5 k5_22 10 s = if wantB (R s 43) false = true then stepV s (some 50) (builtinV Tryz.prog false s.h.get s.h.n .len [22] [(R s 49)]) (O 5 k5_22 11) else O 5 k5_22 11 (skipS s (some 50)) := oI (by kernel_rfl)
theorem k5_22_11 : O 5 k5_22 11 s = if wantB (R s 43) false = true then stepV s (some 51) (val (binV Tryz.prog .add 3 false false (R s 47) (R s 50))) (O 5 k5_22 12) else O 5 k5_22 12 (skipS s (some 51)) := oI (by kernel_rfl)
theorem k5_22_12 : O 5 k5_22 12 s = if wantB (R s 43) false = true then stepV s (some 52) (val (binV Tryz.prog .neq 3 false false (R s 45) (R s 51))) (O 5 k5_22 13) else O 5 k5_22 13 (skipS s (some 52)) := oI (by kernel_rfl)
theorem k5_22_13 : O 5 k5_22 13 s = stepV s (some 53) (xPick (R s 43) (.bool true) (R s 52)) (O 5 k5_22 14) := oR (by kernel_rfl)
theorem k5_22_14 : O 5 k5_22 14 s = some [(.normal, s)] := Qo_end (by kernel_rfl) s
def k5_24 : Code := codeA k5_23
def k5_25 : Code := codeB k5_23
theorem k5_23_c : C 5 k5_23 s = condV (R s 53) (C 5 k5_24) (C 5 k5_25) s := Qc_cond (t := 53) (a := k5_24) (b := k5_25) (by kernel_rfl) _ _
theorem k5_25_c : C 5 k5_25 s = some [(.normal, s)] := Qc_skip (by kernel_rfl) _ _
def k5_28 : Code := codeA k5_21
def k5_29 : Code := codeB k5_21
theorem k5_21_c : C 5 k5_21 s = thenV (C 5 k5_28 s) (C 5 k5_29) := Qc_seq (a := k5_28) (b := k5_29) (by kernel_rfl) _ _
def k5_30 : Code := codeA k5_28
def k5_31 : Code := codeB k5_28
theorem k5_28_c : C 5 k5_28 s = thenV (C 5 k5_30 s) (C 5 k5_31) := Qc_seq (a := k5_30) (b := k5_31) (by kernel_rfl) _ _
theorem k5_30_c : C 5 k5_30 s = O 5 k5_30 0 s := Qc_region (id := 8) (ops := regOps k5_30) (by kernel_rfl) (by kernel_rfl) s
theorem k5_30_0 : O 5 k5_30 0 s = stepV s (some 54) (some { v := (R s 3) }) (O 5 k5_30 1) := oR (by kernel_rfl)
theorem k5_30_1 : O 5 k5_30 1 s = stepV s (some 55) (builtinV Tryz.prog false s.h.get s.h.n .len [27] [(R s 54)]) (O 5 k5_30 2) := oR (by kernel_rfl)
theorem k5_30_2 : O 5 k5_30 2 s = stepV s (some 56) (some { v := (.int .i64 (0)) }) (O 5 k5_30 3) := oR (by kernel_rfl)
theorem k5_30_3 : O 5 k5_30 3 s = some [(.normal, s)] := Qo_end (by kernel_rfl) s
def k5_32 : Code := codeA k5_31
theorem k5_31_c : C 5 k5_31 s = blockV 0 (C 5 k5_32 s) := Qc_block (b := k5_32) (by kernel_rfl) _ _
def k5_33 : Code := codeA k5_32
theorem k5_32_l : C 5 k5_32 s = thenV (C 5 k5_33 s) (C 5 k5_32) := Qc_loop (b := k5_33) (by kernel_rfl) _ _
def k5_34 : Code := codeA k5_33
def k5_35 : Code := codeB k5_33
theorem k5_33_c : C 5 k5_33 s = thenV (C 5 k5_34 s) (C 5 k5_35) := Qc_seq (a := k5_34) (b := k5_35) (by kernel_rfl) _ _
theorem k5_34_c : C 5 k5_34 s = O 5 k5_34 0 s := Qc_region (id := 9) (ops := regOps k5_34) (by kernel_rfl) (by kernel_rfl) s
theorem k5_34_0 : O 5 k5_34 0 s = stepV s (some 57) (val (binV Tryz.prog .lss 3 false false (R s 56) (R s 55))) (O 5 k5_34 1) := oR (by kernel_rfl)
theorem k5_34_1 : O 5 k5_34 1 s = some [(.normal, s)] := Qo_end (by kernel_rfl) s
def k5_36 : Code := codeA k5_35
def k5_37 : Code := codeB k5_35
theorem k5_35_c : C 5 k5_35 s = thenV (C 5 k5_36 s) (C 5 k5_37) := Qc_seq (a := k5_36) (b := k5_37) (by kernel_rfl) _ _
def k5_38 : Code := codeA k5_36
def k5_39 : Code := codeB k5_36
theorem k5_36_c : C 5 k5_36 s = condV (R s 57) (C 5 k5_38) (C 5 k5_39) s := Qc_cond (t := 57) (a := k5_38) (b := k5_39) (by kernel_rfl) _ _
theorem k5_38_c : C 5 k5_38 s = some [(.normal, s)] := Qc_skip (by kernel_rfl) _ _
theorem k5_39_c : C 5 k5_39 s = some [(.exit 0, s)] := Qc_exit (by kernel_rfl) _ _
def k5_40 : Code := codeA k5_37
def k5_41 : Code := codeB k5_37
theorem k5_37_c : C 5 k5_37 s = thenV (C 5 k5_40 s) (C 5 k5_41) := Qc_seq (a := k5_40) (b := k5_41) (by kernel_rfl) _ _
def k5_42 : Code := codeA k5_40
theorem k5_40_c : C 5 k5_40 s = blockV 1 (C 5 k5_42 s) := Qc_block (b := k5_42) (by kernel_rfl) _ _
def k5_43 : Code := codeA k5_42
def k5_44 : Code := codeB k5_42
theorem k5_42_c : C 5 k5_42 s = thenV (C 5 k5_43 s) (C 5 k5_44) := Qc_seq (a := k5_43) (b := k5_44) (by kernel_rfl) _ _
theorem k5_43_c : C 5 k5_43 s = O 5 k5_43 0 s := Qc_region (id := 10) (ops := regOps k5_43) (by kernel_rfl) (by kernel_rfl) s
theorem k5_43_0 : O 5 k5_43 0 s = stepV s (some 58) (some { v := (R s 56) }) (O 5 k5_43 1) := oR (by kernel_rfl)
theorem k5_43_1 : O 5 k5_43 1 s = stepV s (some 59) (val (indexAddr Tryz.prog 27 (R s 54) (R s 56))) (O 5 k5_43 2) := oR (by kernel_rfl)
theorem k5_43_2 : O 5 k5_43 2 s = stepV s (some 60) (xLoad Tryz.prog 3 s.h.get (R s 59)) (O 5 k5_43 3) := oR (by kernel_rfl)
theorem k5_43_3 : O 5 k5_43 3 s = stepV s (some 5) (some { v := (R s 58) }) (O 5 k5_43 4) := oR (by kernel_rfl)
theorem k5_43_4 : O 5 k5_43 4 s = stepV s (some 6) (some { v := (R s 60) }) (O 5 k5_43 5) := oR (by kernel_rfl)
theorem k5_43_5 : O 5 k5_43 5 s = some [(.normal, s)] := Qo_end (by kernel_rfl) s
def k5_45 : Code := codeA k5_44
def k5_46 : Code := codeB k5_44
theorem k5_44_c : C 5 k5_44 s = thenV (C 5 k5_45 s) (C 5 k5_46) := Qc_seq (a := k5_45) (b := k5_46) (by kernel_rfl) _ _
theorem k5_45_c : C 5 k5_45 s = O 5 k5_45 0 s := Qc_region (id := 11) (ops := regOps k5_45) (by kernel_rfl) (by kernel_rfl) s
theorem k5_45_0 : O 5 k5_45 0 s = stepV s (some 61) (some { v := (R s 6) }) (O 5 k5_45 1) := oR (by kernel_rfl)
theorem k5_45_1 : O 5 k5_45 1 s = stepV s (some 62) (val (binV Tryz.prog .lss 3 false true (R s 61) (.int .i64 (0)))) (O 5 k5_45 2) := oR (by kernel_rfl)
theorem k5_45_2 : O 5 k5_45 2 s = stepV s (some 63) (some { v := (R s 62) }) (O 5 k5_45 3) := oR (by kernel_rfl)
theorem k5_45_3 : O 5 k5_45 3 s = if wantB (R s 63) false = true then stepV s (some 64) (some { v := (R s 6) }) (O 5 k5_45 4) else O 5 k5_45 4 (skipS s (some 64)) := oI (by kernel_rfl)
theorem k5_45_4 : O 5 k5_45 4 s = if wantB (R s 63) false = true then stepV s (some 65) (some { v := (R s 5) }) (O 5 k5_45 5) else O 5 k5_45 5 (skipS s (some 65)) := oI (by kernel_rfl)
theorem k5_45_5 : O 5 k5_45 5 s = if wantB (R s 63) false = true then stepV s (some 66) (val (binV Tryz.prog .gtr 3 false false (R s 64) (R s 65))) (O 5 k5_45 6) else O 5 k5_45 6 (skipS s (some 66)) := oI (by kernel_rfl)
theorem k5_45_6 : O 5 k5_45 6 s = stepV s (some 67) (xPick (R s 63) (.bool true) (R s 66)) (O 5 k5_45 7) := oR (by kernel_rfl)
theorem k5_45_7 : O 5 k5_45 7 s = stepV s (some 68) (some { v := (R s 67) }) (O 5 k5_45 8) := oR (by kernel_rfl)
theorem k5_45_8 : O 5 k5_45 8 s = if wantB (R s 68) false = true then stepV s (some 69) (some { v := (R s 3) }) (O 5 k5_45 9) else O 5 k5_45 9 (skipS s (some 69)) := oI (by kernel_rfl)
theorem k5_45_9 : O 5 k5_45 9 s = if wantB (R s 68) false = true then stepV s (some 70) (some { v := (R s 6) }) (O 5 k5_45 10) else O 5 k5_45 10 (skipS s (some 70)) := oI (by kernel_rfl)
theorem k5_45_10 : O 5 k5_45 10 s = if wantB (R s 68) false = true then stepV s (some 71) (val (indexAddr Tryz.prog 27 (R s 69) (R s 70))) (O 5 k5_45 11) else O 5 k5_45 11 (skipS s (some 71)) := oI (by kernel_rfl)
theorem k5_45_11 : O 5 k5_45 11 s = if wantB (R s 68) false = true then stepV s (some 72) (xLoad Tryz.prog 3 s.h.get (R s 71)) (O 5 k5_45 12) else O 5 k5_45 12 (skipS s (some 72)) := oI (by kernel_rfl)
theorem k5_45_12 : O 5 k5_45 12 s = if wantB (R s 68) false = true then stepV s (some 73) (some { v := (R s 6) }) (O 5 k5_45 13) else O 5 k5_45 13 (skipS s (some 73)) := oI (by kernel_rfl)
theorem k5_45_13 : O 5 k5_45 13 s = if wantB (R s 68) false = true then stepV s (some 74) (val (binV Tryz.prog .neq 3 false false (R s 72) (R s 73))) (O 5 k5_45 14) else O 5 k5_45 14 (skipS s (some 74)) := oI (by kernel_rfl)
theorem k5_45_14 : O 5 k5_45 14 s = stepV s (some 75) (xPick (R s 68) (.bool true) (R s 74)) (O 5 k5_45 15) := oR (by kernel_rfl)
theorem k5_45_15 : O 5 k5_45 15 s = some [(.normal, s)] := Qo_end (by kernel_rfl) s
def k5_47 : Code := codeA k5_46
def k5_48 : Code := codeB k5_46
theorem k5_46_c : C 5 k5_46 s = condV (R s 75) (C 5 k5_47) (C 5 k5_48) s := Qc_cond (t := 75) (a := k5_47) (b := k5_48) (by kernel_rfl) _ _
theorem k5_48_c : C 5 k5_48 s = some [(.normal, s)] := Qc_skip (by kernel_rfl) _ _
theorem k5_41_c : C 5 k5_41 s = O 5 k5_41 0 s := Qc_region (id := 13) (ops := regOps k5_41) (by kernel_rfl) (by kernel_rfl) s
theorem k5_41_0 : O 5 k5_41 0 s = stepV s (some 76) (val (binV Tryz.prog .add 3 false true (R s 56) (.int .i64 (1)))) (O 5 k5_41 1) := oR (by kernel_rfl)
theorem k5_41_1 : O 5 k5_41 1 s = stepV s (some 56) (some { v := (R s 76) }) (O 5 k5_41 2) := oR (by kernel_rfl)
theorem k5_41_2 : O 5 k5_41 2 s = some [(.normal, s)] := Qo_end (by kernel_rfl) s
def k5_51 : Code := codeA k5_29
def k5_52 : Code := codeB k5_29
theorem k5_29_c : C 5 k5_29 s = thenV (C 5 k5_51 s) (C 5 k5_52) := Qc_seq (a := k5_51) (b := k5_52) (by kernel_rfl) _ _
def k5_53 : Code := codeA k5_51
def k5_54 : Code := codeB k5_51
theorem k5_51_c : C 5 k5_51 s = thenV (C 5 k5_53 s) (C 5 k5_54) := Qc_seq (a := k5_53) (b := k5_54) (by kernel_rfl) _ _
theorem k5_53_c : C 5 k5_53 s = O 5 k5_53 0 s := Qc_region (id := 14) (ops := regOps k5_53) (by kernel_rfl) (by kernel_rfl) s
theorem k5_53_0 : O 5 k5_53 0 s = stepV s (some 77) (val (addrAdd (R s 1) 2)) (O 5 k5_53 1) := oR (by kernel_rfl)
theorem k5_53_1 : O 5 k5_53 1 s = stepV s (some 78) (xLoad Tryz.prog 22 s.h.get (R s 77)) (O 5 k5_53 2) := oR (by kernel_rfl)
theorem k5_53_2 : O 5 k5_53 2 s = stepV s (some 79) (builtinV Tryz.prog false s.h.get s.h.n .len [22] [(R s 78)]) (O 5 k5_53 3) := oR (by kernel_rfl)
theorem k5_53_3 : O 5 k5_53 3 s = stepV s (some 80) (some { v := (.int .i64 (0)) }) (O 5 k5_53 4) := oR (by kernel_rfl)
theorem k5_53_4 : O 5 k5_53 4 s = some [(.normal, s)] := Qo_end (by kernel_rfl) s
def k5_55 : Code := codeA k5_54
theorem k5_54_c : C 5 k5_54 s = blockV 2 (C 5 k5_55 s) := Qc_block (b := k5_55) (by kernel_rfl) _ _
def k5_56 : Code := codeA k5_55
theorem k5_55_l : C 5 k5_55 s = thenV (C 5 k5_56 s) (C 5 k5_55) := Qc_loop (b := k5_56) (by kernel_rfl) _ _
def k5_57 : Code := codeA k5_56
def k5_58 : Code := codeB k5_56
theorem k5_56_c : C 5 k5_56 s = thenV (C 5 k5_57 s) (C 5 k5_58) := Qc_seq (a := k5_57) (b := k5_58) (by kernel_rfl) _ _
theorem k5_57_c : C 5 k5_57 s = O 5 k5_57 0 s := Qc_region (id := 15) (ops := regOps k5_57) (by kernel_rfl) (by kernel_rfl) s
theorem k5_57_0 : O 5 k5_57 0 s = stepV s (some 81) (val (binV Tryz.prog .lss 3 false false (R s 80) (R s 79))) (O 5 k5_57 1) := oR (by kernel_rfl)
theorem k5_57_1 : O 5 k5_57 1 s = some [(.normal, s)] := Qo_end (by kernel_rfl) s
def k5_59 : Code := codeA k5_58
def k5_60 : Code := codeB k5_58
theorem k5_58_c : C 5 k5_58 s = thenV (C 5 k5_59 s) (C 5 k5_60) := Qc_seq (a := k5_59) (b := k5_60) (by kernel_rfl) _ _
def k5_61 : Code := codeA k5_59
def k5_62 : Code := codeB k5_59
theorem k5_59_c : C 5 k5_59 s = condV (R s 81) (C 5 k5_61) (C 5 k5_62) s := Qc_cond (t := 81) (a := k5_61) (b := k5_62) (by kernel_rfl) _ _
theorem k5_61_c : C 5 k5_61 s = some [(.normal, s)] := Qc_skip (by kernel_rfl) _ _
theorem k5_62_c : C 5 k5_62 s = some [(.exit 2, s)] := Qc_exit (by kernel_rfl) _ _
def k5_63 : Code := codeA k5_60
def k5_64 : Code := codeB k5_60
theorem k5_60_c : C 5 k5_60 s = thenV (C 5 k5_63 s) (C 5 k5_64) := Qc_seq (a := k5_63) (b := k5_64) (by kernel_rfl) _ _
def k5_65 : Code := codeA k5_63
theorem k5_63_c : C 5 k5_63 s = blockV 3 (C 5 k5_65 s) := Qc_block (b := k5_65) (by kernel_rfl) _ _
def k5_66 : Code := codeA k5_65
def k5_67 : Code := codeB k5_65
theorem k5_65_c : C 5 k5_65 s = thenV (C 5 k5_66 s) (C 5 k5_67) := Qc_seq (a := k5_66) (b := k5_67) (by kernel_rfl) _ _
theorem k5_66_c : C 5 k5_66 s = O 5 k5_66 0 s := Qc_region (id := 16) (ops := regOps k5_66) (by kernel_rfl) (by kernel_rfl) s
theorem k5_66_0 : O 5 k5_66 0 s = stepV s (some 82) (val (indexAddr Tryz.prog 22 (R s 78) (R s 80))) (O 5 k5_66 1) := oR (by kernel_rfl)
theorem k5_66_1 : O 5 k5_66 1 s = stepV s (some 83) (xLoad Tryz.prog 42 s.h.get (R s 82)) (O 5 k5_66 2) := oR (by kernel_rfl)
theorem k5_66_2 : O 5 k5_66 2 s = stepV s (some 8) (some { v := .ptr s.h.n 0, nw := [.row 0 [.int .i64 (0), .int .i64 (0)]] }) (O 5 k5_66 3) := oR (by kernel_rfl)
theorem k5_66_3 : O 5 k5_66 3 s = stepV s none (xStore Tryz.prog 42 s.h.get (R s 8) (R s 83)) (O 5 k5_66 4) := oR (by kernel_rfl)
theorem k5_66_4 : O 5 k5_66 4 s = some [(.normal, s)] := Qo_end (by kernel_rfl) s
def k5_68 : Code := codeA k5_67
def k5_69 : Code := codeB k5_67
theorem k5_67_c : C 5 k5_67 s = thenV (C 5 k5_68 s) (C 5 k5_69) := Qc_seq (a := k5_68) (b := k5_69) (by kernel_rfl) _ _
def k5_68_bef : List Nat := [0, 1, 0, 4, 15, 31, 63, 127, 255, 127, 639, 2047, 127, 4223, 16383, 32767, 65535, 131071, 131071, 393215, 1048575, 2097151, 131071, 131071, 8519679, 29491199, 63045631, 134217727, 268435455]
theorem k5_68_c : C 5 k5_68 s = D 5 k5_68 k5_68_bef 0 [] s := Qc_draw (id := 17) (ops := regOps k5_68) (by kernel_rfl) (by kernel_rfl) (by kernel_rfl) (by kernel_rfl) s
theorem k5_68_0 : D 5 k5_68 k5_68_bef 0 dn s = stepD s (some 84) 0 k5_68_bef dn (val (indexAddr Tryz.prog 42 (R s 8) (.int .i64 (0)))) (D 5 k5_68 k5_68_bef 1) := dR (by kernel_rfl)
theorem k5_68_1 : D 5 k5_68 k5_68_bef 1 dn s = stepD s (some 85) 1 k5_68_bef dn (xLoad Tryz.prog 3 s.h.get (R s 84)) (D 5 k5_68 k5_68_bef 2) := dR (by kernel_rfl)
theorem k5_68_2 : D 5 k5_68 k5_68_bef 2 dn s = stepD s (some 86) 2 k5_68_bef dn (val (indexAddr Tryz.prog 42 (R s 8) (.int .i64 (1)))) (D 5 k5_68 k5_68_bef 3) := dR (by kernel_rfl)
theorem k5_68_3 : D 5 k5_68 k5_68_bef 3 dn s = stepD s (some 87) 3 k5_68_bef dn (xLoad Tryz.prog 3 s.h.get (R s 86)) (D 5 k5_68 k5_68_bef 4) := dR (by kernel_rfl)
theorem k5_68_4 : D 5 k5_68 k5_68_bef 4 dn s = stepD s (some 88) 4 k5_68_bef dn (builtinV Tryz.prog false s.h.get s.h.n .min [3, 3] [(R s 85), (R s 87)]) (D 5 k5_68 k5_68_bef 5) := dR (by kernel_rfl)
theorem k5_68_5 : D 5 k5_68 k5_68_bef 5 dn s = stepD s (some 89) 5 k5_68_bef dn (val (binV Tryz.prog .lss 3 false true (R s 88) (.int .i64 (0)))) (D 5 k5_68 k5_68_bef 6) := dR (by kernel_rfl)
theorem k5_68_6 : D 5 k5_68 k5_68_bef 6 dn s = stepD s (some 90) 6 k5_68_bef dn (some { v := (R s 89) }) (D 5 k5_68 k5_68_bef 7) := dR (by kernel_rfl)
theorem k5_68_7 : D 5 k5_68 k5_68_bef 7 dn s = if wantB (R s 90) false = true then stepD s (some 91) 7 k5_68_bef dn (val (indexAddr Tryz.prog 42 (R s 8) (.int .i64 (0)))) (D 5 k5_68 k5_68_bef 8) else D 5 k5_68 k5_68_bef 8 dn (skipS s (some 91)) := dI (by kernel_rfl)
theorem k5_68_8 : D 5 k5_68 k5_68_bef 8 dn s = if wantB (R s 90) false = true then stepD s (some 92) 8 k5_68_bef dn (xLoad Tryz.prog 3 s.h.get (R s 91)) (D 5 k5_68 k5_68_bef 9) else D 5 k5_68 k5_68_bef 9 dn (skipS s (some 92)) := dI (by kernel_rfl)
theorem k5_68_9 : D 5 k5_68 k5_68_bef 9 dn s = if wantB (R s 90) false = true then stepD s (some 93) 9 k5_68_bef dn (val (indexAddr Tryz.prog 42 (R s 8) (.int .i64 (1)))) (D 5 k5_68 k5_68_bef 10) else D 5 k5_68 k5_68_bef 10 dn (skipS s (some 93)) := dI (by kernel_rfl)
theorem k5_68_10 : D 5 k5_68 k5_68_bef 10 dn s = if wantB (R s 90) false = true then stepD s (some 94) 10 k5_68_bef dn (xLoad Tryz.prog 3 s.h.get (R s 93)) (D 5 k5_68 k5_68_bef 11) else D 5 k5_68 k5_68_bef 11 dn (skipS s (some 94)) := dI (by kernel_rfl)
theorem k5_68_11 : D 5 k5_68 k5_68_bef 11 dn s = if wantB (R s 90) false = true then stepD s (some 95) 11 k5_68_bef dn (builtinV Tryz.prog false s.h.get s.h.n .max [3, 3] [(R s 92), (R s 94)]) (D 5 k5_68 k5_68_bef 12) else D 5 k5_68 k5_68_bef 12 dn (skipS s (some 95)) := dI (by kernel_rfl)
theorem k5_68_12 : D 5 k5_68 k5_68_bef 12 dn s = if wantB (R s 90) false = true then stepD s (some 96) 12 k5_68_bef dn (some { v := (R s 3) }) (D 5 k5_68 k5_68_bef 13) else D 5 k5_68 k5_68_bef 13 dn (skipS s (some 96)) := dI (by kernel_rfl)
theorem k5_68_13 : D 5 k5_68 k5_68_bef 13 dn s = if wantB (R s 90) false = true then stepD s (some 97) 13 k5_68_bef dn (builtinV Tryz.prog false s.h.get s.h.n .len [27] [(R s 96)]) (D 5 k5_68 k5_68_bef 14) else D 5 k5_68 k5_68_bef 14 dn (skipS s (some 97)) := dI (by kernel_rfl)
theorem k5_68_14 : D 5 k5_68 k5_68_bef 14 dn s = if wantB (R s 90) false = true then stepD s (some 98) 14 k5_68_bef dn (val (binV Tryz.prog .geq 3 false false (R s 95) (R s 97))) (D 5 k5_68 k5_68_bef 15) else D 5 k5_68 k5_68_bef 15 dn (skipS s (some 98)) := dI (by kernel_rfl)
theorem k5_68_15 : D 5 k5_68 k5_68_bef 15 dn s = stepD s (some 99) 15 k5_68_bef dn (xPick (R s 90) (.bool true) (R s 98)) (D 5 k5_68 k5_68_bef 16) := dR (by kernel_rfl)
theorem k5_68_16 : D 5 k5_68 k5_68_bef 16 dn s = stepD s (some 100) 16 k5_68_bef dn (some { v := (R s 99) }) (D 5 k5_68 k5_68_bef 17) := dR (by kernel_rfl)
theorem k5_68_17 : D 5 k5_68 k5_68_bef 17 dn s = if wantB (R s 100) false = true then stepD s (some 101) 17 k5_68_bef dn (some { v := (R s 3) }) (D 5 k5_68 k5_68_bef 18) else D 5 k5_68 k5_68_bef 18 dn (skipS s (some 101)) := dI (by kernel_rfl)
theorem k5_68_18 : D 5 k5_68 k5_68_bef 18 dn s = if wantB (R s 100) false = true then stepD s (some 102) 18 k5_68_bef dn (val (indexAddr Tryz.prog 42 (R s 8) (.int .i64 (0)))) (D 5 k5_68 k5_68_bef 19) else D 5 k5_68 k5_68_bef 19 dn (skipS s (some 102)) := dI (by kernel_rfl)
theorem k5_68_19 : D 5 k5_68 k5_68_bef 19 dn s = if wantB (R s 100) false = true then stepD s (some 103) 19 k5_68_bef dn (xLoad Tryz.prog 3 s.h.get (R s 102)) (D 5 k5_68 k5_68_bef 20) else D 5 k5_68 k5_68_bef 20 dn (skipS s (some 103)) := dI (by kernel_rfl)
theorem k5_68_20 : D 5 k5_68 k5_68_bef 20 dn s = if wantB (R s 100) false = true then stepD s (some 104) 20 k5_68_bef dn (val (indexAddr Tryz.prog 27 (R s 101) (R s 103))) (D 5 k5_68 k5_68_bef 21) else D 5 k5_68 k5_68_bef 21 dn (skipS s (some 104)) := dI (by kernel_rfl)
theorem k5_68_21 : D 5 k5_68 k5_68_bef 21 dn s = if wantB (R s 100) false = true then stepD s (some 105) 21 k5_68_bef dn (xLoad Tryz.prog 3 s.h.get (R s 104)) (D 5 k5_68 k5_68_bef 22) else D 5 k5_68 k5_68_bef 22 dn (skipS s (some 105)) := dI (by kernel_rfl)
theorem k5_68_22 : D 5 k5_68 k5_68_bef 22 dn s = if wantB (R s 100) false = true then stepD s (some 106) 22 k5_68_bef dn (some { v := (R s 3) }) (D 5 k5_68 k5_68_bef 23) else D 5 k5_68 k5_68_bef 23 dn (skipS s (some 106)) := dI (by kernel_rfl)
theorem k5_68_23 : D 5 k5_68 k5_68_bef 23 dn s = if wantB (R s 100) false = true then stepD s (some 107) 23 k5_68_bef dn (val (indexAddr Tryz.prog 42 (R s 8) (.int .i64 (1)))) (D 5 k5_68 k5_68_bef 24) else D 5 k5_68 k5_68_bef 24 dn (skipS s (some 107)) := dI (by kernel_rfl)
theorem k5_68_24 : D 5 k5_68 k5_68_bef 24 dn s = if wantB (R s 100) false = true then stepD s (some 108) 24 k5_68_bef dn (xLoad Tryz.prog 3 s.h.get (R s 107)) (D 5 k5_68 k5_68_bef 25) else D 5 k5_68 k5_68_bef 25 dn (skipS s (some 108)) := dI (by kernel_rfl)
theorem k5_68_25 : D 5 k5_68 k5_68_bef 25 dn s = if wantB (R s 100) false = true then stepD s (some 109) 25 k5_68_bef dn (val (indexAddr Tryz.prog 27 (R s 106) (R s 108))) (D 5 k5_68 k5_68_bef 26) else D 5 k5_68 k5_68_bef 26 dn (skipS s (some 109)) := dI (by kernel_rfl)
theorem k5_68_26 : D 5 k5_68 k5_68_bef 26 dn s = if wantB (R s 100) false = true then stepD s (some 110) 26 k5_68_bef dn (xLoad Tryz.prog 3 s.h.get (R s 109)) (D 5 k5_68 k5_68_bef 27) else D 5 k5_68 k5_68_bef 27 dn (skipS s (some 110)) := dI (by kernel_rfl)
theorem k5_68_27 : D 5 k5_68 k5_68_bef 27 dn s = if wantB (R s 100) false = true then stepD s (some 111) 27 k5_68_bef dn (val (binV Tryz.prog .neq 3 false false (R s 105) (R s 110))) (D 5 k5_68 k5_68_bef 28) else D 5 k5_68 k5_68_bef 28 dn (skipS s (some 111)) := dI (by kernel_rfl)
theorem k5_68_28 : D 5 k5_68 k5_68_bef 28 dn s = stepD s (some 112) 28 k5_68_bef dn (xPick (R s 100) (.bool true) (R s 111)) (D 5 k5_68 k5_68_bef 29) := dR (by kernel_rfl)
theorem k5_68_29 : D 5 k5_68 k5_68_bef 29 dn s = some [(.normal, s)] := Qd_end (by kernel_rfl) dn s
def k5_70 : Code := codeA k5_69
def k5_71 : Code := codeB k5_69
theorem k5_69_c : C 5 k5_69 s = condV (R s 112) (C 5 k5_70) (C 5 k5_71) s := Qc_cond (t := 112) (a := k5_70) (b := k5_71) (by kernel_rfl) _ _
theorem k5_71_c : C 5 k5_71 s = some [(.normal, s)] := Qc_skip (by kernel_rfl) _ _
theorem k5_64_c : C 5 k5_64 s = O 5 k5_64 0 s := Qc_region (id := 19) (ops := regOps k5_64) (by kernel_rfl) (by kernel_rfl) s
theorem k5_64_0 : O 5 k5_64 0 s = stepV s (some 113) (val (binV Tryz.prog .add 3 false true (R s 80) (.int .i64 (1)))) (O 5 k5_64 1) := oR (by kernel_rfl)
theorem k5_64_1 : O 5 k5_64 1 s = stepV s (some 80) (some { v := (R s 113) }) (O 5 k5_64 2) := oR (by kernel_rfl)
theorem k5_64_2 : O 5 k5_64 2 s = some [(.normal, s)] := Qo_end (by kernel_rfl) s
def k5_74 : Code := codeA k5_52
def k5_75 : Code := codeB k5_52
theorem k5_52_c : C 5 k5_52 s = thenV (C 5 k5_74 s) (C 5 k5_75) := Qc_seq (a := k5_74) (b := k5_75) (by kernel_rfl) _ _
def k5_76 : Code := codeA k5_74
def k5_77 : Code := codeB k5_74
theorem k5_74_c : C 5 k5_74 s = thenV (C 5 k5_76 s) (C 5 k5_77) := Qc_seq (a := k5_76) (b := k5_77) (by kernel_rfl) _ _
theorem k5_76_c : C 5 k5_76 s = O 5 k5_76 0 s := Qc_region (id := 20) (ops := regOps k5_76) (by kernel_rfl) (by kernel_rfl) s
theorem k5_76_0 : O 5 k5_76 0 s = stepV s (some 114) (val (addrAdd (R s 1) 1)) (O 5 k5_76 1) := oR (by kernel_rfl)
theorem k5_76_1 : O 5 k5_76 1 s = stepV s (some 115) (xLoad Tryz.prog 22 s.h.get (R s 114)) (O 5 k5_76 2) := oR (by kernel_rfl)
theorem k5_76_2 : O 5 k5_76 2 s = stepV s (some 116) (builtinV Tryz.prog false s.h.get s.h.n .len [22] [(R s 115)]) (O 5 k5_76 3) := oR (by kernel_rfl)
theorem k5_76_3 : O 5 k5_76 3 s = stepV s (some 117) (some { v := (.int .i64 (0)) }) (O 5 k5_76 4) := oR (by kernel_rfl)
theorem k5_76_4 : O 5 k5_76 4 s = some [(.normal, s)] := Qo_end (by kernel_rfl) s
def k5_78 : Code := codeA k5_77
theorem k5_77_c : C 5 k5_77 s = blockV 4 (C 5 k5_78 s) := Qc_block (b := k5_78) (by kernel_rfl) _ _
def k5_79 : Code := codeA k5_78
theorem k5_78_l : C 5 k5_78 s = thenV (C 5 k5_79 s) (C 5 k5_78) := Qc_loop (b := k5_79) (by kernel_rfl) _ _
def k5_80 : Code := codeA k5_79
def k5_81 : Code := codeB k5_79
theorem k5_79_c : C 5 k5_79 s = thenV (C 5 k5_80 s) (C 5 k5_81) := Qc_seq (a := k5_80) (b := k5_81) (by kernel_rfl) _ _
theorem k5_80_c : C 5 k5_80 s = O 5 k5_80 0 s := Qc_region (id := 21) (ops := regOps k5_80) (by kernel_rfl) (by kernel_rfl) s
theorem k5_80_0 : O 5 k5_80 0 s = stepV s (some 118) (val (binV Tryz.prog .lss 3 false false (R s 117) (R s 116))) (O 5 k5_80 1) := oR (by kernel_rfl)
theorem k5_80_1 : O 5 k5_80 1 s = some [(.normal, s)] := Qo_end (by kernel_rfl) s
def k5_82 : Code := codeA k5_81
def k5_83 : Code := codeB k5_81
theorem k5_81_c : C 5 k5_81 s = thenV (C 5 k5_82 s) (C 5 k5_83) := Qc_seq (a := k5_82) (b := k5_83) (by kernel_rfl) _ _
def k5_84 : Code := codeA k5_82
def k5_85 : Code := codeB k5_82
theorem k5_82_c : C 5 k5_82 s = condV (R s 118) (C 5 k5_84) (C 5 k5_85) s := Qc_cond (t := 118) (a := k5_84) (b := k5_85) (by kernel_rfl) _ _
theorem k5_84_c : C 5 k5_84 s = some [(.normal, s)] := Qc_skip (by kernel_rfl) _ _
theorem k5_85_c : C 5 k5_85 s = some [(.exit 4, s)] := Qc_exit (by kernel_rfl) _ _
def k5_86 : Code := codeA k5_83
def k5_87 : Code := codeB k5_83
theorem k5_83_c : C 5 k5_83 s = thenV (C 5 k5_86 s) (C 5 k5_87) := Qc_seq (a := k5_86) (b := k5_87) (by kernel_rfl) _ _
def k5_88 : Code := codeA k5_86
theorem k5_86_c : C 5 k5_86 s = blockV 5 (C 5 k5_88 s) := Qc_block (b := k5_88) (by kernel_rfl) _ _
def k5_89 : Code := codeA k5_88
def k5_90 : Code := codeB k5_88
theorem k5_88_c : C 5 k5_88 s = thenV (C 5 k5_89 s) (C 5 k5_90) := Qc_seq (a := k5_89) (b := k5_90) (by kernel_rfl) _ _
theorem k5_89_c : C 5 k5_89 s = O 5 k5_89 0 s := Qc_region (id := 22) (ops := regOps k5_89) (by kernel_rfl) (by kernel_rfl) s
theorem k5_89_0 : O 5 k5_89 0 s = stepV s (some 119) (some { v := (R s 117) }) (O 5 k5_89 1) := oR (by kernel_rfl)
theorem k5_89_1 : O 5 k5_89 1 s = stepV s (some 120) (val (indexAddr Tryz.prog 22 (R s 115) (R s 117))) (O 5 k5_89 2) := oR (by kernel_rfl)
theorem k5_89_2 : O 5 k5_89 2 s = stepV s (some 121) (xLoad Tryz.prog 42 s.h.get (R s 120)) (O 5 k5_89 3) := oR (by kernel_rfl)
theorem k5_89_3 : O 5 k5_89 3 s = stepV s (some 10) (some { v := .ptr s.h.n 0, nw := [.row 0 [.int .i64 (0), .int .i64 (0)]] }) (O 5 k5_89 4) := oR (by kernel_rfl)
theorem k5_89_4 : O 5 k5_89 4 s = stepV s (some 9) (some { v := (R s 119) }) (O 5 k5_89 5) := oR (by kernel_rfl)
theorem k5_89_5 : O 5 k5_89 5 s = stepV s none (xStore Tryz.prog 42 s.h.get (R s 10) (R s 121)) (O 5 k5_89 6) := oR (by kernel_rfl)
theorem k5_89_6 : O 5 k5_89 6 s = some [(.normal, s)] := Qo_end (by kernel_rfl) s
def k5_91 : Code := codeA k5_90
def k5_92 : Code := codeB k5_90
theorem k5_90_c : C 5 k5_90 s = thenV (C 5 k5_91 s) (C 5 k5_92) := Qc_seq (a := k5_91) (b := k5_92) (by kernel_rfl) _ _
theorem k5_91_c : C 5 k5_91 s = O 5 k5_91 0 s := Qc_region (id := 23) (ops := regOps k5_91) (by kernel_rfl) (by kernel_rfl) s
theorem k5_91_0 : O 5 k5_91 0 s = stepV s (some 122) (val (addrAdd (R s 1) 1)) (O 5 k5_91 1) := oR (by kernel_rfl)
theorem k5_91_1 : O 5 k5_91 1 s = stepV s (some 123) (xLoad Tryz.prog 22 s.h.get (R s 122)) (O 5 k5_91 2) := oR (by kernel_rfl)
theorem k5_91_2 : O 5 k5_91 2 s = stepV s (some 124) (some { v := (R s 9) }) (O 5 k5_91 3) := oR (by kernel_rfl)
theorem k5_91_3 : O 5 k5_91 3 s = stepV s (some 125) (val (sliceV Tryz.prog 22 (R s 123) none (some (R s 124)) none)) (O 5 k5_91 4) := oR (by kernel_rfl)
theorem k5_91_4 : O 5 k5_91 4 s = stepV s (some 126) (builtinV Tryz.prog false s.h.get s.h.n .len [22] [(R s 125)]) (O 5 k5_91 5) := oR (by kernel_rfl)
theorem k5_91_5 : O 5 k5_91 5 s = stepV s (some 127) (some { v := (.int .i64 (0)) }) (O 5 k5_91 6) := oR (by kernel_rfl)
theorem k5_91_6 : O 5 k5_91 6 s = some [(.normal, s)] := Qo_end (by kernel_rfl) s
def k5_93 : Code := codeA k5_92
theorem k5_92_c : C 5 k5_92 s = blockV 6 (C 5 k5_93 s) := Qc_block (b := k5_93) (by kernel_rfl) _ _
def k5_94 : Code := codeA k5_93
theorem k5_93_l : C 5 k5_93 s = thenV (C 5 k5_94 s) (C 5 k5_93) := Qc_loop (b := k5_94) (by kernel_rfl) _ _
def k5_95 : Code := codeA k5_94
def k5_96 : Code := codeB k5_94
theorem k5_94_c : C 5 k5_94 s = thenV (C 5 k5_95 s) (C 5 k5_96) := Qc_seq (a := k5_95) (b := k5_96) (by kernel_rfl) _ _
theorem k5_95_c : C 5 k5_95 s = O 5 k5_95 0 s := Qc_region (id := 24) (ops := regOps k5_95) (by kernel_rfl) (by kernel_rfl) s
theorem k5_95_0 : O 5 k5_95 0 s = stepV s (some 128) (val (binV Tryz.prog .lss 3 false false (R s 127) (R s 126))) (O 5 k5_95 1) := oR (by kernel_rfl)
theorem k5_95_1 : O 5 k5_95 1 s = some [(.normal, s)] := Qo_end (by kernel_rfl) s
def k5_97 : Code := codeA k5_96
def k5_98 : Code := codeB k5_96
theorem k5_96_c : C 5 k5_96 s = thenV (C 5 k5_97 s) (C 5 k5_98) := Qc_seq (a := k5_97) (b := k5_98) (by kernel_rfl) _ _
def k5_99 : Code := codeA k5_97
def k5_100 : Code := codeB k5_97
theorem k5_97_c : C 5 k5_97 s = condV (R s 128) (C 5 k5_99) (C 5 k5_100) s := Qc_cond (t := 128) (a := k5_99) (b := k5_100) (by kernel_rfl) _ _
theorem k5_99_c : C 5 k5_99 s = some [(.normal, s)] := Qc_skip (by kernel_rfl) _ _
theorem k5_100_c : C 5 k5_100 s = some [(.exit 6, s)] := Qc_exit (by kernel_rfl) _ _
def k5_101 : Code := codeA k5_98
def k5_102 : Code := codeB k5_98
theorem k5_98_c : C 5 k5_98 s = thenV (C 5 k5_101 s) (C 5 k5_102) := Qc_seq (a := k5_101) (b := k5_102) (by kernel_rfl) _ _
def k5_103 : Code := codeA k5_101
theorem k5_101_c : C 5 k5_101 s = blockV 7 (C 5 k5_103 s) := Qc_block (b := k5_103) (by kernel_rfl) _ _
def k5_104 : Code := codeA k5_103
def k5_105 : Code := codeB k5_103
theorem k5_103_c : C 5 k5_103 s = thenV (C 5 k5_104 s) (C 5 k5_105) := Qc_seq (a := k5_104) (b := k5_105) (by kernel_rfl) _ _
theorem k5_104_c : C 5 k5_104 s = O 5 k5_104 0 s := Qc_region (id := 25) (ops := regOps k5_104) (by kernel_rfl) (by kernel_rfl) s
theorem k5_104_0 : O 5 k5_104 0 s = stepV s (some 129) (some { v := (R s 127) }) (O 5 k5_104 1) := oR (by kernel_rfl)
theorem k5_104_1 : O 5 k5_104 1 s = stepV s (some 130) (val (indexAddr Tryz.prog 22 (R s 125) (R s 127))) (O 5 k5_104 2) := oR (by kernel_rfl)
theorem k5_104_2 : O 5 k5_104 2 s = stepV s (some 131) (xLoad Tryz.prog 42 s.h.get (R s 130)) (O 5 k5_104 3) := oR (by kernel_rfl)
theorem k5_104_3 : O 5 k5_104 3 s = stepV s (some 12) (some { v := .ptr s.h.n 0, nw := [.row 0 [.int .i64 (0), .int .i64 (0)]] }) (O 5 k5_104 4) := oR (by kernel_rfl)
theorem k5_104_4 : O 5 k5_104 4 s = stepV s (some 11) (some { v := (R s 129) }) (O 5 k5_104 5) := oR (by kernel_rfl)
theorem k5_104_5 : O 5 k5_104 5 s = stepV s none (xStore Tryz.prog 42 s.h.get (R s 12) (R s 131)) (O 5 k5_104 6) := oR (by kernel_rfl)
theorem k5_104_6 : O 5 k5_104 6 s = some [(.normal, s)] := Qo_end (by kernel_rfl) s
def k5_106 : Code := codeA k5_105
def k5_107 : Code := codeB k5_105
theorem k5_105_c : C 5 k5_105 s = thenV (C 5 k5_106 s) (C 5 k5_107) := Qc_seq (a := k5_106) (b := k5_107) (by kernel_rfl) _ _
def k5_108 : Code := codeA k5_106
def k5_109 : Code := codeB k5_106
theorem k5_106_c : C 5 k5_106 s = thenV (C 5 k5_108 s) (C 5 k5_109) := Qc_seq (a := k5_108) (b := k5_109) (by kernel_rfl) _ _
theorem k5_108_c : C 5 k5_108 s = O 5 k5_108 0 s := Qc_region (id := 26) (ops := regOps k5_108) (by kernel_rfl) (by kernel_rfl) s
theorem k5_108_0 : O 5 k5_108 0 s = stepV s (some 132) (val (indexAddr Tryz.prog 42 (R s 10) (.int .i64 (0)))) (O 5 k5_108 1) := oR (by kernel_rfl)
theorem k5_108_1 : O 5 k5_108 1 s = stepV s (some 133) (xLoad Tryz.prog 3 s.h.get (R s 132)) (O 5 k5_108 2) := oR (by kernel_rfl)
theorem k5_108_2 : O 5 k5_108 2 s = stepV s (some 134) (val (indexAddr Tryz.prog 42 (R s 10) (.int .i64 (1)))) (O 5 k5_108 3) := oR (by kernel_rfl)
theorem k5_108_3 : O 5 k5_108 3 s = stepV s (some 135) (xLoad Tryz.prog 3 s.h.get (R s 134)) (O 5 k5_108 4) := oR (by kernel_rfl)
theorem k5_108_4 : O 5 k5_108 4 s = stepV s (some 136) (val (indexAddr Tryz.prog 42 (R s 12) (.int .i64 (0)))) (O 5 k5_108 5) := oR (by kernel_rfl)
theorem k5_108_5 : O 5 k5_108 5 s = stepV s (some 137) (xLoad Tryz.prog 3 s.h.get (R s 136)) (O 5 k5_108 6) := oR (by kernel_rfl)
theorem k5_108_6 : O 5 k5_108 6 s = stepV s (some 138) (val (indexAddr Tryz.prog 42 (R s 12) (.int .i64 (1)))) (O 5 k5_108 7) := oR (by kernel_rfl)
theorem k5_108_7 : O 5 k5_108 7 s = stepV s (some 139) (xLoad Tryz.prog 3 s.h.get (R s 138)) (O 5 k5_108 8) := oR (by kernel_rfl)
theorem k5_108_8 : O 5 k5_108 8 s = stepV s (some 140) (builtinV Tryz.prog false s.h.get s.h.n .min [3, 3, 3, 3] [(R s 133), (R s 135), (R s 137), (R s 139)]) (O 5 k5_108 9) := oR (by kernel_rfl)
theorem k5_108_9 : O 5 k5_108 9 s = stepV s (some 141) (val (binV Tryz.prog .lss 3 false true (R s 140) (.int .i64 (0)))) (O 5 k5_108 10) := oR (by kernel_rfl)
theorem k5_108_10 : O 5 k5_108 10 s = stepV s (some 142) (some { v := (R s 141) }) (O 5 k5_108 11) := oR (by kernel_rfl)
theorem k5_108_11 : O 5 k5_108 11 s = if wantB (R s 142) false = true then stepV s (some 143) (val (indexAddr Tryz.prog 42 (R s 10) (.int .i64 (0)))) (O 5 k5_108 12) else O 5 k5_108 12 (skipS s (some 143)) := oI (by kernel_rfl)
theorem k5_108_12 : O 5 k5_108 12 s = if wantB (R s 142) false = true then stepV s (some 144) (xLoad Tryz.prog 3 s.h.get (R s 143)) (O 5 k5_108 13) else O 5 k5_108 13 (skipS s (some 144)) := oI (by kernel_rfl)
theorem k5_108_13 : O 5 k5_108 13 s = if wantB (R s 142) false = true then stepV s (some 145) (val (indexAddr Tryz.prog 42 (R s 10) (.int .i64 (1)))) (O 5 k5_108 14) else O 5 k5_108 14 (skipS s (some 145)) := oI (by kernel_rfl)
theorem k5_108_14 : O 5 k5_108 14 s = if wantB (R s 142) false = true then stepV s (some 146) (xLoad Tryz.prog 3 s.h.get (R s 145)) (O 5 k5_108 15) else O 5 k5_108 15 (skipS s (some 146)) := oI (by kernel_rfl)
theorem k5_108_15 : O 5 k5_108 15 s = if wantB (R s 142) false = true then stepV s (some 147) (val (indexAddr Tryz.prog 42 (R s 12) (.int .i64 (0)))) (O 5 k5_108 16) else O 5 k5_108 16 (skipS s (some 147)) := oI (by kernel_rfl)
theorem k5_108_16 : O 5 k5_108 16 s = if wantB (R s 142) false = true then stepV s (some 148) (xLoad Tryz.prog 3 s.h.get (R s 147)) (O 5 k5_108 17) else O 5 k5_108 17 (skipS s (some 148)) := oI (by kernel_rfl)
theorem k5_108_17 : O 5 k5_108 17 s = if wantB (R s 142) false = true then stepV s (some 149) (val (indexAddr Tryz.prog 42 (R s 12) (.int .i64 (1)))) (O 5 k5_108 18) else O 5 k5_108 18 (skipS s (some 149)) := oI (by kernel_rfl)
theorem k5_108_18 : O 5 k5_108 18 s = if wantB (R s 142) false = true then stepV s (some 150) (xLoad Tryz.prog 3 s.h.get (R s 149)) (O 5 k5_108 19) else O 5 k5_108 19 (skipS s (some 150)) := oI (by kernel_rfl)
theorem k5_108_19 : O 5 k5_108 19 s = if wantB (R s 142) false = true then stepV s (some 151) (builtinV Tryz.prog false s.h.get s.h.n .max [3, 3, 3, 3] [(R s 144), (R s 146), (R s 148), (R s 150)]) (O 5 k5_108 20) else O 5 k5_108 20 (skipS s (some 151)) := oI (by kernel_rfl)
theorem k5_108_20 : O 5 k5_108 20 s = if wantB (R s 142) false = true then stepV s (some 152) (some { v := (R s 3) }) (O 5 k5_108 21) else O 5 k5_108 21 (skipS s (some 152)) := oI (by kernel_rfl)
theorem k5_108_21 : O 5 k5_108 21 s = if wantB (R s 142) false = true then stepV s (some 153) (builtinV Tryz.prog false s.h.get s.h.n .len [27] [(R s 152)]) (O 5 k5_108 22) else O 5 k5_108 22 (skipS s (some 153)) := oI (by kernel_rfl)
theorem k5_108_22 : O 5 k5_108 22 s = if wantB (R s 142) false = true then stepV s (some 154) (val (binV Tryz.prog .geq 3 false false (R s 151) (R s 153))) (O 5 k5_108 23) else O 5 k5_108 23 (skipS s (some 154)) := oI (by kernel_rfl)
theorem k5_108_23 : O 5 k5_108 23 s = stepV s (some 155) (xPick (R s 142) (.bool true) (R s 154)) (O 5 k5_108 24) := oR (by kernel_rfl)
theorem k5_108_24 : O 5 k5_108 24 s = some [(.normal, s)] := Qo_end (by kernel_rfl) s
def k5_110 : Code := codeA k5_109
def k5_111 : Code := codeB k5_109
theorem k5_109_c : C 5 k5_109 s = condV (R s 155) (C 5 k5_110) (C 5 k5_111) s := Qc_cond (t := 155) (a := k5_110) (b := k5_111) (by kernel_rfl) _ _
theorem k5_111_c : C 5 k5_111 s = some [(.normal, s)] := Qc_skip (by kernel_rfl) _ _
def k5_114 : Code := codeA k5_107
def k5_115 : Code := codeB k5_107
theorem k5_107_c : C 5 k5_107 s = thenV (C 5 k5_114 s) (C 5 k5_115) := Qc_seq (a := k5_114) (b := k5_115) (by kernel_rfl) _ _
def k5_114_bef : List Nat := [0, 0, 2, 7, 15, 0, 0, 64, 224, 480, 1023, 2047, 4095, 4095, 12287, 32767, 65535, 4095, 4095, 266239, 921599, 1970175, 4194303, 8388607, 16777215, 33554431, 33554431, 100663295, 33554431, 503316479, 1073741823, 2147483647, 33554431, 33554431, 8623489023, 33554431, 60163096575, 133177540607, 270616494079, 549755813887, 1099511627775]
theorem k5_114_c : C 5 k5_114 s = D 5 k5_114 k5_114_bef 0 [] s := Qc_draw (id := 28) (ops := regOps k5_114) (by kernel_rfl) (by kernel_rfl) (by kernel_rfl) (by kernel_rfl) s
theorem k5_114_0 : D 5 k5_114 k5_114_bef 0 dn s = stepD s (some 156) 0 k5_114_bef dn (some { v := (R s 3) }) (D 5 k5_114 k5_114_bef 1) := dR (by kernel_rfl)
theorem k5_114_1 : D 5 k5_114 k5_114_bef 1 dn s = stepD s (some 157) 1 k5_114_bef dn (val (indexAddr Tryz.prog 42 (R s 10) (.int .i64 (0)))) (D 5 k5_114 k5_114_bef 2) := dR (by kernel_rfl)
theorem k5_114_2 : D 5 k5_114 k5_114_bef 2 dn s = stepD s (some 158) 2 k5_114_bef dn (xLoad Tryz.prog 3 s.h.get (R s 157)) (D 5 k5_114 k5_114_bef 3) := dR (by kernel_rfl)
theorem k5_114_3 : D 5 k5_114 k5_114_bef 3 dn s = stepD s (some 159) 3 k5_114_bef dn (val (indexAddr Tryz.prog 27 (R s 156) (R s 158))) (D 5 k5_114 k5_114_bef 4) := dR (by kernel_rfl)
theorem k5_114_4 : D 5 k5_114 k5_114_bef 4 dn s = stepD s (some 160) 4 k5_114_bef dn (xLoad Tryz.prog 3 s.h.get (R s 159)) (D 5 k5_114 k5_114_bef 5) := dR (by kernel_rfl)
theorem k5_114_5 : D 5 k5_114 k5_114_bef 5 dn s = stepD s (some 161) 5 k5_114_bef dn (some { v := (R s 3) }) (D 5 k5_114 k5_114_bef 6) := dR (by kernel_rfl)
theorem k5_114_6 : D 5 k5_114 k5_114_bef 6 dn s = stepD s (some 162) 6 k5_114_bef dn (val (indexAddr Tryz.prog 42 (R s 12) (.int .i64 (0)))) (D 5 k5_114 k5_114_bef 7) := dR (by kernel_rfl)
theorem k5_114_7 : D 5 k5_114 k5_114_bef 7 dn s = stepD s (some 163) 7 k5_114_bef dn (xLoad Tryz.prog 3 s.h.get (R s 162)) (D 5 k5_114 k5_114_bef 8) := dR (by kernel_rfl)
theorem k5_114_8 : D 5 k5_114 k5_114_bef 8 dn s = stepD s (some 164) 8 k5_114_bef dn (val (indexAddr Tryz.prog 27 (R s 161) (R s 163))) (D 5 k5_114 k5_114_bef 9) := dR (by kernel_rfl)
theorem k5_114_9 : D 5 k5_114 k5_114_bef 9 dn s = stepD s (some 165) 9 k5_114_bef dn (xLoad Tryz.prog 3 s.h.get (R s 164)) (D 5 k5_114 k5_114_bef 10) := dR (by kernel_rfl)
theorem k5_114_10 : D 5 k5_114 k5_114_bef 10 dn s = stepD s (some 166) 10 k5_114_bef dn (val (binV Tryz.prog .eql 3 false false (R s 160) (R s 165))) (D 5 k5_114 k5_114_bef 11) := dR (by kernel_rfl)
theorem k5_114_11 : D 5 k5_114 k5_114_bef 11 dn s = stepD s (some 167) 11 k5_114_bef dn (some { v := (R s 166) }) (D 5 k5_114 k5_114_bef 12) := dR (by kernel_rfl)
theorem k5_114_12 : D 5 k5_114 k5_114_bef 12 dn s = if wantB (R s 167) true = true then stepD s (some 168) 12 k5_114_bef dn (some { v := (R s 3) }) (D 5 k5_114 k5_114_bef 13) else D 5 k5_114 k5_114_bef 13 dn (skipS s (some 168)) := dI (by kernel_rfl)
theorem k5_114_13 : D 5 k5_114 k5_114_bef 13 dn s = if wantB (R s 167) true = true then stepD s (some 169) 13 k5_114_bef dn (val (indexAddr Tryz.prog 42 (R s 10) (.int .i64 (1)))) (D 5 k5_114 k5_114_bef 14) else D 5 k5_114 k5_114_bef 14 dn (skipS s (some 169)) := dI (by kernel_rfl)
theorem k5_114_14 : D 5 k5_114 k5_114_bef 14 dn s = if wantB (R s 167) true = true then stepD s (some 170) 14 k5_114_bef dn (xLoad Tryz.prog 3 s.h.get (R s 169)) (D 5 k5_114 k5_114_bef 15) else D 5 k5_114 k5_114_bef 15 dn (skipS s (some 170)) := dI (by kernel_rfl)
theorem k5_114_15 : D 5 k5_114 k5_114_bef 15 dn s = if wantB (R s 167) true = true then stepD s (some 171) 15 k5_114_bef dn (val (indexAddr Tryz.prog 27 (R s 168) (R s 170))) (D 5 k5_114 k5_114_bef 16) else D 5 k5_114 k5_114_bef 16 dn (skipS s (some 171)) := dI (by kernel_rfl)
theorem k5_114_16 : D 5 k5_114 k5_114_bef 16 dn s = if wantB (R s 167) true = true then stepD s (some 172) 16 k5_114_bef dn (xLoad Tryz.prog 3 s.h.get (R s 171)) (D 5 k5_114 k5_114_bef 17) else D 5 k5_114 k5_114_bef 17 dn (skipS s (some 172)) := dI (by kernel_rfl)
theorem k5_114_17 : D 5 k5_114 k5_114_bef 17 dn s = if wantB (R s 167) true = true then stepD s (some 173) 17 k5_114_bef dn (some { v := (R s 3) }) (D 5 k5_114 k5_114_bef 18) else D 5 k5_114 k5_114_bef 18 dn (skipS s (some 173)) := dI (by kernel_rfl)
theorem k5_114_18 : D 5 k5_114 k5_114_bef 18 dn s = if wantB (R s 167) true = true then stepD s (some 174) 18 k5_114_bef dn (val (indexAddr Tryz.prog 42 (R s 12) (.int .i64 (1)))) (D 5 k5_114 k5_114_bef 19) else D 5 k5_114 k5_114_bef 19 dn (skipS s (some 174)) := dI (by kernel_rfl)
theorem k5_114_19 : D 5 k5_114 k5_114_bef 19 dn s = if wantB (R s 167) true = true then stepD s (some 175) 19 k5_114_bef dn (xLoad Tryz.prog 3 s.h.get (R s 174)) (D 5 k5_114 k5_114_bef 20) else D 5 k5_114 k5_114_bef 20 dn (skipS s (some 175)) := dI (by kernel_rfl)
theorem k5_114_20 : D 5 k5_114 k5_114_bef 20 dn s = if wantB (R s 167) true = true then stepD s (some 176) 20 k5_114_bef dn (val (indexAddr Tryz.prog 27 (R s 173) (R s 175))) (D 5 k5_114 k5_114_bef 21) else D 5 k5_114 k5_114_bef 21 dn (skipS s (some 176)) := dI (by kernel_rfl)
theorem k5_114_21 : D 5 k5_114 k5_114_bef 21 dn s = if wantB (R s 167) true = true then stepD s (some 177) 21 k5_114_bef dn (xLoad Tryz.prog 3 s.h.get (R s 176)) (D 5 k5_114 k5_114_bef 22) else D 5 k5_114 k5_114_bef 22 dn (skipS s (some 177)) := dI (by kernel_rfl)
theorem k5_114_22 : D 5 k5_114 k5_114_bef 22 dn s = if wantB (R s 167) true = true then stepD s (some 178) 22 k5_114_bef dn (val (binV Tryz.prog .eql 3 false false (R s 172) (R s 177))) (D 5 k5_114 k5_114_bef 23) else D 5 k5_114 k5_114_bef 23 dn (skipS s (some 178)) := dI (by kernel_rfl)
theorem k5_114_23 : D 5 k5_114 k5_114_bef 23 dn s = stepD s (some 179) 23 k5_114_bef dn (xPick (R s 167) (R s 178) (.bool false)) (D 5 k5_114 k5_114_bef 24) := dR (by kernel_rfl)
theorem k5_114_24 : D 5 k5_114 k5_114_bef 24 dn s = stepD s (some 180) 24 k5_114_bef dn (some { v := (R s 179) }) (D 5 k5_114 k5_114_bef 25) := dR (by kernel_rfl)
theorem k5_114_25 : D 5 k5_114 k5_114_bef 25 dn s = if wantB (R s 180) true = true then stepD s (some 181) 25 k5_114_bef dn (some { v := (R s 3) }) (D 5 k5_114 k5_114_bef 26) else D 5 k5_114 k5_114_bef 26 dn (skipS s (some 181)) := dI (by kernel_rfl)
theorem k5_114_26 : D 5 k5_114 k5_114_bef 26 dn s = if wantB (R s 180) true = true then stepD s (some 182) 26 k5_114_bef dn (val (addrAdd (R s 1) 0)) (D 5 k5_114 k5_114_bef 27) else D 5 k5_114 k5_114_bef 27 dn (skipS s (some 182)) := dI (by kernel_rfl)
theorem k5_114_27 : D 5 k5_114 k5_114_bef 27 dn s = if wantB (R s 180) true = true then stepD s (some 183) 27 k5_114_bef dn (xLoad Tryz.prog 3 s.h.get (R s 182)) (D 5 k5_114 k5_114_bef 28) else D 5 k5_114 k5_114_bef 28 dn (skipS s (some 183)) := dI (by kernel_rfl)
theorem k5_114_28 : D 5 k5_114 k5_114_bef 28 dn s = if wantB (R s 180) true = true then stepD s (some 184) 28 k5_114_bef dn (some { v := (R s 9) }) (D 5 k5_114 k5_114_bef 29) else D 5 k5_114 k5_114_bef 29 dn (skipS s (some 184)) := dI (by kernel_rfl)
theorem k5_114_29 : D 5 k5_114 k5_114_bef 29 dn s = if wantB (R s 180) true = true then stepD s (some 185) 29 k5_114_bef dn (val (binV Tryz.prog .add 3 false false (R s 183) (R s 184))) (D 5 k5_114 k5_114_bef 30) else D 5 k5_114 k5_114_bef 30 dn (skipS s (some 185)) := dI (by kernel_rfl)
theorem k5_114_30 : D 5 k5_114 k5_114_bef 30 dn s = if wantB (R s 180) true = true then stepD s (some 186) 30 k5_114_bef dn (val (indexAddr Tryz.prog 27 (R s 181) (R s 185))) (D 5 k5_114 k5_114_bef 31) else D 5 k5_114 k5_114_bef 31 dn (skipS s (some 186)) := dI (by kernel_rfl)
theorem k5_114_31 : D 5 k5_114 k5_114_bef 31 dn s = if wantB (R s 180) true = true then stepD s (some 187) 31 k5_114_bef dn (xLoad Tryz.prog 3 s.h.get (R s 186)) (D 5 k5_114 k5_114_bef 32) else D 5 k5_114 k5_114_bef 32 dn (skipS s (some 187)) := dI (by kernel_rfl)
theorem k5_114_32 : D 5 k5_114 k5_114_bef 32 dn s = if wantB (R s 180) true = true then stepD s (some 188) 32 k5_114_bef dn (some { v := (R s 3) }) (D 5 k5_114 k5_114_bef 33) else D 5 k5_114 k5_114_bef 33 dn (skipS s (some 188)) := dI (by kernel_rfl)
theorem k5_114_33 : D 5 k5_114 k5_114_bef 33 dn s = if wantB (R s 180) true = true then stepD s (some 189) 33 k5_114_bef dn (val (addrAdd (R s 1) 0)) (D 5 k5_114 k5_114_bef 34) else D 5 k5_114 k5_114_bef 34 dn (skipS s (some 189)) := dI (by kernel_rfl)
theorem k5_114_34 : D 5 k5_114 k5_114_bef 34 dn s = if wantB (R s 180) true = true then stepD s (some 190) 34 k5_114_bef dn (xLoad Tryz.prog 3 s.h.get (R s 189)) (D 5 k5_114 k5_114_bef 35) else D 5 k5_114 k5_114_bef 35 dn (skipS s (some 190)) := dI (by kernel_rfl)
theorem k5_114_35 : D 5 k5_114 k5_114_bef 35 dn s = if wantB (R s 180) true = true then stepD s (some 191) 35 k5_114_bef dn (some { v := (R s 11) }) (D 5 k5_114 k5_114_bef 36) else D 5 k5_114 k5_114_bef 36 dn (skipS s (some 191)) := dI (by kernel_rfl)
theorem k5_114_36 : D 5 k5_114 k5_114_bef 36 dn s = if wantB (R s 180) true = true then stepD s (some 192) 36 k5_114_bef dn (val (binV Tryz.prog .add 3 false false (R s 190) (R s 191))) (D 5 k5_114 k5_114_bef 37) else D 5 k5_114 k5_114_bef 37 dn (skipS s (some 192)) := dI (by kernel_rfl)
theorem k5_114_37 : D 5 k5_114 k5_114_bef 37 dn s = if wantB (R s 180) true = true then stepD s (some 193) 37 k5_114_bef dn (val (indexAddr Tryz.prog 27 (R s 188) (R s 192))) (D 5 k5_114 k5_114_bef 38) else D 5 k5_114 k5_114_bef 38 dn (skipS s (some 193)) := dI (by kernel_rfl)
theorem k5_114_38 : D 5 k5_114 k5_114_bef 38 dn s = if wantB (R s 180) true = true then stepD s (some 194) 38 k5_114_bef dn (xLoad Tryz.prog 3 s.h.get (R s 193)) (D 5 k5_114 k5_114_bef 39) else D 5 k5_114 k5_114_bef 39 dn (skipS s (some 194)) := dI (by kernel_rfl)
theorem k5_114_39 : D 5 k5_114 k5_114_bef 39 dn s = if wantB (R s 180) true = true then stepD s (some 195) 39 k5_114_bef dn (val (binV Tryz.prog .neq 3 false false (R s 187) (R s 194))) (D 5 k5_114 k5_114_bef 40) else D 5 k5_114 k5_114_bef 40 dn (skipS s (some 195)) := dI (by kernel_rfl)
theorem k5_114_40 : D 5 k5_114 k5_114_bef 40 dn s = stepD s (some 196) 40 k5_114_bef dn (xPick (R s 180) (R s 195) (.bool false)) (D 5 k5_114 k5_114_bef 41) := dR (by kernel_rfl)
theorem k5_114_41 : D 5 k5_114 k5_114_bef 41 dn s = some [(.normal, s)] := Qd_end (by kernel_rfl) dn s
def k5_116 : Code := codeA k5_115
def k5_117 : Code := codeB k5_115
theorem k5_115_c : C 5 k5_115 s = condV (R s 196) (C 5 k5_116) (C 5 k5_117) s := Qc_cond (t := 196) (a := k5_116) (b := k5_117) (by kernel_rfl) _ _
theorem k5_117_c : C 5 k5_117 s = some [(.normal, s)] := Qc_skip (by kernel_rfl) _ _
theorem k5_102_c : C 5 k5_102 s = O 5 k5_102 0 s := Qc_region (id := 30) (ops := regOps k5_102) (by kernel_rfl) (by kernel_rfl) s
theorem k5_102_0 : O 5 k5_102 0 s = stepV s (some 197) (val (binV Tryz.prog .add 3 false true (R s 127) (.int .i64 (1)))) (O 5 k5_102 1) := oR (by kernel_rfl)
theorem k5_102_1 : O 5 k5_102 1 s = stepV s (some 127) (some { v := (R s 197) }) (O 5 k5_102 2) := oR (by kernel_rfl)
theorem k5_102_2 : O 5 k5_102 2 s = some [(.normal, s)] := Qo_end (by kernel_rfl) s
theorem k5_87_c : C 5 k5_87 s = O 5 k5_87 0 s := Qc_region (id := 31) (ops := regOps k5_87) (by kernel_rfl) (by kernel_rfl) s
theorem k5_87_0 : O 5 k5_87 0 s = stepV s (some 198) (val (binV Tryz.prog .add 3 false true (R s 117) (.int .i64 (1)))) (O 5 k5_87 1) := oR (by kernel_rfl)
theorem k5_87_1 : O 5 k5_87 1 s = stepV s (some 117) (some { v := (R s 198) }) (O 5 k5_87 2) := oR (by kernel_rfl)
theorem k5_87_2 : O 5 k5_87 2 s = some [(.normal, s)] := Qo_end (by kernel_rfl) s
def k5_120 : Code := codeA k5_75
def k5_121 : Code := codeB k5_75
theorem k5_75_c : C 5 k5_75 s = thenV (C 5 k5_120 s) (C 5 k5_121) := Qc_seq (a := k5_120) (b := k5_121) (by kernel_rfl) _ _
theorem k5_120_c : C 5 k5_120 s = O 5 k5_120 0 s := Qc_region (id := 32) (ops := regOps k5_120) (by kernel_rfl) (by kernel_rfl) s
theorem k5_120_0 : O 5 k5_120 0 s = thenC (some 199) s (callS Tryz.prog hs ks 8 [] s.h) (O 5 k5_120 1) := cR (by kernel_rfl)
theorem k5_120_1 : O 5 k5_120 1 s = stepV s (some 2) (some { v := (R s 199) }) (O 5 k5_120 2) := oR (by kernel_rfl)
theorem k5_120_2 : O 5 k5_120 2 s = some [(.normal, s)] := Qo_end (by kernel_rfl) s
theorem k5_121_c : C 5 k5_121 s = some [(.ret, s)] := Qc_ret (by kernel_rfl) _ _
end Go.Proofs.YtdlaladdeelegaaGreat.Cg
end
