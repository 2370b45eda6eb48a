/- Equations of the code. -/
import Derived.Test.YtdlaladdeelegaaGreatE1
import Derived.KernelRfl
set_option linter.all false
noncomputable section
namespace Go.Proofs.YtdlaladdeelegaaGreat.Cg
open Go Go.Ae
variable (dn : List (Nat × Foot)) (s : St)
def k22 : Code := Tryz.f22.body.getD .skip
theorem k22_fun (args : List V) (ha : args.length ≤ 166) (h : H) : (EV Tryz.prog hs ks).call 22 args h = endsV Tryz.prog hs ks Tryz.f22 (C 22 k22 (S 166 (setF args 0 fun _ => undefV) [] h)) := EV_fun Tryz.func22 (by kernel_rfl) (by kernel_rfl) (by decide) rfl ha h
theorem k22_ret (f : Nat → V) (h : H) : endsV Tryz.prog hs ks Tryz.f22 (some [(.ret, S 166 f [] h)]) = resV (resultVs Tryz.prog (S 166 f [] h) [.tmp 8]) h := ends_one (by kernel_rfl) (Or.inl rfl) _ _
def k22_0 : Code := codeA k22
def k22_1 : Code := codeB k22
theorem k22_c : C 22 k22 s = thenV (C 22 k22_0 s) (C 22 k22_1) := Qc_seq (a := k22_0) (b := k22_1) (by kernel_rfl) _ _
theorem k22_0_c : C 22 k22_0 s = O 22 k22_0 0 s := Qc_region (id := 0) (ops := regOps k22_0) (by kernel_rfl) (by kernel_rfl) s
theorem k22_0_0 : O 22 k22_0 0 s = stepV s (some 8) (some { v := (.nilp) }) (O 22 k22_0 1) := oR (by kernel_rfl)
theorem k22_0_1 : O 22 k22_0 1 s = some [(.normal, s)] := Qo_end (by kernel_rfl) s
def k22_2 : Code := codeA k22_1
def k22_3 : Code := codeB k22_1
theorem k22_1_c : C 22 k22_1 s = thenV (C 22 k22_2 s) (C 22 k22_3) := Qc_seq (a := k22_2) (b := k22_3) (by kernel_rfl) _ _
theorem k22_2_c : C 22 k22_2 s = O 22 k22_2 0 s := Qc_region (id := 1) (ops := regOps k22_2) (by kernel_rfl) (by kernel_rfl) s
theorem k22_2_0 : O 22 k22_2 0 s = stepV s (some 17) (some { v := (R s 0) }) (O 22 k22_2 1) := oR (by kernel_rfl)
theorem k22_2_1 : O 22 k22_2 1 s = stepV s (some 18) (some { v := (R s 1) }) (O 22 k22_2 2) := oR (by kernel_rfl)
theorem k22_2_2 : O 22 k22_2 2 s = stepV s (some 19) (builtinV Tryz.prog false s.h.get s.h.n .len [22] [(R s 18)]) (O 22 k22_2 3) := oR (by kernel_rfl)
theorem k22_2_3 : O 22 k22_2 3 s = stepV s (some 20) (val (binV Tryz.prog .add 3 false false (R s 17) (R s 19))) (O 22 k22_2 4) := oR (by kernel_rfl)
theorem k22_2_4 : O 22 k22_2 4 s = stepV s (some 9) (some { v := (R s 20) }) (O 22 k22_2 5) := oR (by kernel_rfl)
theorem k22_2_5 : O 22 k22_2 5 s = some [(.normal, s)] := Qo_end (by kernel_rfl) s
def k22_4 : Code := codeA k22_3
def k22_5 : Code := codeB k22_3
theorem k22_3_c : C 22 k22_3 s = thenV (C 22 k22_4 s) (C 22 k22_5) := Qc_seq (a := k22_4) (b := k22_5) (by kernel_rfl) _ _
def k22_4_bef : List Nat := [0, 0, 0, 4, 0, 16, 0, 127, 255, 511]
theorem k22_4_c : C 22 k22_4 s = D 22 k22_4 k22_4_bef 0 [] s := Qc_draw (id := 2) (ops := regOps k22_4) (by kernel_rfl) (by kernel_rfl) (by kernel_rfl) (by kernel_rfl) s
theorem k22_4_0 : D 22 k22_4 k22_4_bef 0 dn s = stepD s (some 21) 0 k22_4_bef dn (some { v := (R s 0) }) (D 22 k22_4 k22_4_bef 1) := dR (by kernel_rfl)
theorem k22_4_1 : D 22 k22_4 k22_4_bef 1 dn s = stepD s (some 22) 1 k22_4_bef dn (some { v := (R s 1) }) (D 22 k22_4 k22_4_bef 2) := dR (by kernel_rfl)
theorem k22_4_2 : D 22 k22_4 k22_4_bef 2 dn s = stepD s (some 23) 2 k22_4_bef dn (some { v := (R s 9) }) (D 22 k22_4 k22_4_bef 3) := dR (by kernel_rfl)
theorem k22_4_3 : D 22 k22_4 k22_4_bef 3 dn s = stepD s (some 24) 3 k22_4_bef dn (mkS Tryz.prog 27 s.h.n (R s 23) (R s 23)) (D 22 k22_4 k22_4_bef 4) := dR (by kernel_rfl)
theorem k22_4_4 : D 22 k22_4 k22_4_bef 4 dn s = stepD s (some 25) 4 k22_4_bef dn (some { v := (R s 9) }) (D 22 k22_4 k22_4_bef 5) := dR (by kernel_rfl)
theorem k22_4_5 : D 22 k22_4 k22_4_bef 5 dn s = stepD s (some 26) 5 k22_4_bef dn (mkS Tryz.prog 27 s.h.n (R s 25) (R s 25)) (D 22 k22_4 k22_4_bef 6) := dR (by kernel_rfl)
theorem k22_4_6 : D 22 k22_4 k22_4_bef 6 dn s = stepD s (some 27) 6 k22_4_bef dn (some { v := .map s.h.n, nw := [.map [] 0] }) (D 22 k22_4 k22_4_bef 7) := dR (by kernel_rfl)
theorem k22_4_7 : D 22 k22_4 k22_4_bef 7 dn s = stepD s (some 28) 7 k22_4_bef dn (val (build Tryz.prog 82 [(0, (R s 21)), (1, (R s 22)), (3, (R s 24)), (4, (R s 26)), (5, (R s 27))])) (D 22 k22_4 k22_4_bef 8) := dR (by kernel_rfl)
theorem k22_4_8 : D 22 k22_4 k22_4_bef 8 dn s = stepD s (some 29) 8 k22_4_bef dn (some { v := .ptr s.h.n 0, nw := [.row 0 (V.cells (R s 28))] }) (D 22 k22_4 k22_4_bef 9) := dR (by kernel_rfl)
theorem k22_4_9 : D 22 k22_4 k22_4_bef 9 dn s = stepD s (some 10) 9 k22_4_bef dn (some { v := (R s 29) }) (D 22 k22_4 k22_4_bef 10) := dR (by kernel_rfl)
theorem k22_4_10 : D 22 k22_4 k22_4_bef 10 dn s = some [(.normal, s)] := Qd_end (by kernel_rfl) dn s
def k22_6 : Code := codeA k22_5
def k22_7 : Code := codeB k22_5
theorem k22_5_c : C 22 k22_5 s = thenV (C 22 k22_6 s) (C 22 k22_7) := Qc_seq (a := k22_6) (b := k22_7) (by kernel_rfl) _ _
def k22_8 : Code := codeA k22_6
def k22_9 : Code := codeB k22_6
theorem k22_6_c : C 22 k22_6 s = thenV (C 22 k22_8 s) (C 22 k22_9) := Qc_seq (a := k22_8) (b := k22_9) (by kernel_rfl) _ _
theorem k22_8_c : C 22 k22_8 s = O 22 k22_8 0 s := Qc_region (id := 3) (ops := regOps k22_8) (by kernel_rfl) (by kernel_rfl) s
theorem k22_8_0 : O 22 k22_8 0 s = stepV s (some 30) (some { v := (R s 9) }) (O 22 k22_8 1) := oR (by kernel_rfl)
theorem k22_8_1 : O 22 k22_8 1 s = stepV s (some 31) (some { v := (.int .i64 (0)) }) (O 22 k22_8 2) := oR (by kernel_rfl)
theorem k22_8_2 : O 22 k22_8 2 s = some [(.normal, s)] := Qo_end (by kernel_rfl) s
def k22_10 : Code := codeA k22_9
theorem k22_9_c : C 22 k22_9 s = blockV 0 (C 22 k22_10 s) := Qc_block (b := k22_10) (by kernel_rfl) _ _
def k22_11 : Code := codeA k22_10
theorem k22_10_l : C 22 k22_10 s = thenV (C 22 k22_11 s) (C 22 k22_10) := Qc_loop (b := k22_11) (by kernel_rfl) _ _
def k22_12 : Code := codeA k22_11
def k22_13 : Code := codeB k22_11
theorem k22_11_c : C 22 k22_11 s = thenV (C 22 k22_12 s) (C 22 k22_13) := Qc_seq (a := k22_12) (b := k22_13) (by kernel_rfl) _ _
theorem k22_12_c : C 22 k22_12 s = O 22 k22_12 0 s := Qc_region (id := 4) (ops := regOps k22_12) (by kernel_rfl) (by kernel_rfl) s
theorem k22_12_0 : O 22 k22_12 0 s = stepV s (some 32) (val (binV Tryz.prog .lss 3 false false (R s 31) (R s 30))) (O 22 k22_12 1) := oR (by kernel_rfl)
theorem k22_12_1 : O 22 k22_12 1 s = some [(.normal, s)] := Qo_end (by kernel_rfl) s
def k22_14 : Code := codeA k22_13
def k22_15 : Code := codeB k22_13
theorem k22_13_c : C 22 k22_13 s = thenV (C 22 k22_14 s) (C 22 k22_15) := Qc_seq (a := k22_14) (b := k22_15) (by kernel_rfl) _ _
def k22_16 : Code := codeA k22_14
def k22_17 : Code := codeB k22_14
theorem k22_14_c : C 22 k22_14 s = condV (R s 32) (C 22 k22_16) (C 22 k22_17) s := Qc_cond (t := 32) (a := k22_16) (b := k22_17) (by kernel_rfl) _ _
theorem k22_16_c : C 22 k22_16 s = some [(.normal, s)] := Qc_skip (by kernel_rfl) _ _
theorem k22_17_c : C 22 k22_17 s = some [(.exit 0, s)] := Qc_exit (by kernel_rfl) _ _
def k22_18 : Code := codeA k22_15
def k22_19 : Code := codeB k22_15
theorem k22_15_c : C 22 k22_15 s = thenV (C 22 k22_18 s) (C 22 k22_19) := Qc_seq (a := k22_18) (b := k22_19) (by kernel_rfl) _ _
def k22_20 : Code := codeA k22_18
theorem k22_18_c : C 22 k22_18 s = blockV 1 (C 22 k22_20 s) := Qc_block (b := k22_20) (by kernel_rfl) _ _
def k22_21 : Code := codeA k22_20
def k22_22 : Code := codeB k22_20
theorem k22_20_c : C 22 k22_20 s = thenV (C 22 k22_21 s) (C 22 k22_22) := Qc_seq (a := k22_21) (b := k22_22) (by kernel_rfl) _ _
theorem k22_21_c : C 22 k22_21 s = O 22 k22_21 0 s := Qc_region (id := 5) (ops := regOps k22_21) (by kernel_rfl) (by kernel_rfl) s
theorem k22_21_0 : O 22 k22_21 0 s = stepV s (some 33) (some { v := (R s 31) }) (O 22 k22_21 1) := oR (by kernel_rfl)
theorem k22_21_1 : O 22 k22_21 1 s = stepV s (some 11) (some { v := (R s 33) }) (O 22 k22_21 2) := oR (by kernel_rfl)
theorem k22_21_2 : O 22 k22_21 2 s = some [(.normal, s)] := Qo_end (by kernel_rfl) s
def k22_23 : Code := codeA k22_22
def k22_24 : Code := codeB k22_22
theorem k22_22_c : C 22 k22_22 s = thenV (C 22 k22_23 s) (C 22 k22_24) := Qc_seq (a := k22_23) (b := k22_24) (by kernel_rfl) _ _
theorem k22_23_c : C 22 k22_23 s = O 22 k22_23 0 s := Qc_region (id := 6) (ops := regOps k22_23) (by kernel_rfl) (by kernel_rfl) s
theorem k22_23_0 : O 22 k22_23 0 s = stepV s (some 34) (some { v := (R s 10) }) (O 22 k22_23 1) := oR (by kernel_rfl)
theorem k22_23_1 : O 22 k22_23 1 s = stepV s (some 35) (some { v := (R s 10) }) (O 22 k22_23 2) := oR (by kernel_rfl)
theorem k22_23_2 : O 22 k22_23 2 s = stepV s (some 36) (xNilCheck Tryz.prog (R s 35)) (O 22 k22_23 3) := oR (by kernel_rfl)
theorem k22_23_3 : O 22 k22_23 3 s = stepV s (some 37) (val (addrAdd (R s 36) 2)) (O 22 k22_23 4) := oR (by kernel_rfl)
theorem k22_23_4 : O 22 k22_23 4 s = stepV s (some 38) (xLoad Tryz.prog 27 s.h.get (R s 37)) (O 22 k22_23 5) := oR (by kernel_rfl)
theorem k22_23_5 : O 22 k22_23 5 s = stepV s (some 39) (some { v := (R s 11) }) (O 22 k22_23 6) := oR (by kernel_rfl)
theorem k22_23_6 : O 22 k22_23 6 s = stepV s (some 40) (litS Tryz.prog false 27 1 [(0, (R s 39))] s.h.n) (O 22 k22_23 7) := oR (by kernel_rfl)
theorem k22_23_7 : O 22 k22_23 7 s = stepV s (some 41) (builtinV Tryz.prog true s.h.get s.h.n .append [27, 27] [(R s 38), (R s 40)]) (O 22 k22_23 8) := oR (by kernel_rfl)
theorem k22_23_8 : O 22 k22_23 8 s = stepV s (some 42) (xNilCheck Tryz.prog (R s 34)) (O 22 k22_23 9) := oR (by kernel_rfl)
theorem k22_23_9 : O 22 k22_23 9 s = stepV s (some 43) (val (addrAdd (R s 42) 2)) (O 22 k22_23 10) := oR (by kernel_rfl)
theorem k22_23_10 : O 22 k22_23 10 s = stepV s none (xStore Tryz.prog 27 s.h.get (R s 43) (R s 41)) (O 22 k22_23 11) := oR (by kernel_rfl)
theorem k22_23_11 : O 22 k22_23 11 s = some [(.normal, s)] := Qo_end (by kernel_rfl) s
def k22_25 : Code := codeA k22_24
def k22_26 : Code := codeB k22_24
theorem k22_24_c : C 22 k22_24 s = thenV (C 22 k22_25 s) (C 22 k22_26) := Qc_seq (a := k22_25) (b := k22_26) (by kernel_rfl) _ _
theorem k22_25_c : C 22 k22_25 s = O 22 k22_25 0 s := Qc_region (id := 7) (ops := regOps k22_25) (by kernel_rfl) (by kernel_rfl) s
theorem k22_25_0 : O 22 k22_25 0 s = stepV s (some 44) (some { v := (R s 10) }) (O 22 k22_25 1) := oR (by kernel_rfl)
theorem k22_25_1 : O 22 k22_25 1 s = stepV s (some 45) (xNilCheck Tryz.prog (R s 44)) (O 22 k22_25 2) := oR (by kernel_rfl)
theorem k22_25_2 : O 22 k22_25 2 s = stepV s (some 46) (val (addrAdd (R s 45) 3)) (O 22 k22_25 3) := oR (by kernel_rfl)
theorem k22_25_3 : O 22 k22_25 3 s = stepV s (some 47) (xLoad Tryz.prog 78 s.h.get (R s 46)) (O 22 k22_25 4) := oR (by kernel_rfl)
theorem k22_25_4 : O 22 k22_25 4 s = stepV s (some 48) (some { v := (R s 11) }) (O 22 k22_25 5) := oR (by kernel_rfl)
theorem k22_25_5 : O 22 k22_25 5 s = stepV s (some 49) (some { v := (R s 11) }) (O 22 k22_25 6) := oR (by kernel_rfl)
theorem k22_25_6 : O 22 k22_25 6 s = stepV s (some 50) (litS Tryz.prog false 27 1 [(0, (R s 49))] s.h.n) (O 22 k22_25 7) := oR (by kernel_rfl)
theorem k22_25_7 : O 22 k22_25 7 s = stepV s (some 51) (val (indexAddr Tryz.prog 78 (R s 47) (R s 48))) (O 22 k22_25 8) := oR (by kernel_rfl)
theorem k22_25_8 : O 22 k22_25 8 s = stepV s none (xStore Tryz.prog 27 s.h.get (R s 51) (R s 50)) (O 22 k22_25 9) := oR (by kernel_rfl)
theorem k22_25_9 : O 22 k22_25 9 s = some [(.normal, s)] := Qo_end (by kernel_rfl) s
def k22_27 : Code := codeA k22_26
def k22_28 : Code := codeB k22_26
theorem k22_26_c : C 22 k22_26 s = thenV (C 22 k22_27 s) (C 22 k22_28) := Qc_seq (a := k22_27) (b := k22_28) (by kernel_rfl) _ _
theorem k22_27_c : C 22 k22_27 s = O 22 k22_27 0 s := Qc_region (id := 8) (ops := regOps k22_27) (by kernel_rfl) (by kernel_rfl) s
theorem k22_27_0 : O 22 k22_27 0 s = stepV s (some 52) (some { v := (R s 10) }) (O 22 k22_27 1) := oR (by kernel_rfl)
theorem k22_27_1 : O 22 k22_27 1 s = stepV s (some 53) (some { v := (R s 10) }) (O 22 k22_27 2) := oR (by kernel_rfl)
theorem k22_27_2 : O 22 k22_27 2 s = stepV s (some 54) (xNilCheck Tryz.prog (R s 53)) (O 22 k22_27 3) := oR (by kernel_rfl)
theorem k22_27_3 : O 22 k22_27 3 s = stepV s (some 55) (val (addrAdd (R s 54) 6)) (O 22 k22_27 4) := oR (by kernel_rfl)
theorem k22_27_4 : O 22 k22_27 4 s = stepV s (some 56) (xLoad Tryz.prog 27 s.h.get (R s 55)) (O 22 k22_27 5) := oR (by kernel_rfl)
theorem k22_27_5 : O 22 k22_27 5 s = stepV s (some 57) (litS Tryz.prog false 27 1 [(0, (.int .i64 (-1)))] s.h.n) (O 22 k22_27 6) := oR (by kernel_rfl)
theorem k22_27_6 : O 22 k22_27 6 s = stepV s (some 58) (builtinV Tryz.prog true s.h.get s.h.n .append [27, 27] [(R s 56), (R s 57)]) (O 22 k22_27 7) := oR (by kernel_rfl)
theorem k22_27_7 : O 22 k22_27 7 s = stepV s (some 59) (xNilCheck Tryz.prog (R s 52)) (O 22 k22_27 8) := oR (by kernel_rfl)
theorem k22_27_8 : O 22 k22_27 8 s = stepV s (some 60) (val (addrAdd (R s 59) 6)) (O 22 k22_27 9) := oR (by kernel_rfl)
theorem k22_27_9 : O 22 k22_27 9 s = stepV s none (xStore Tryz.prog 27 s.h.get (R s 60) (R s 58)) (O 22 k22_27 10) := oR (by kernel_rfl)
theorem k22_27_10 : O 22 k22_27 10 s = some [(.normal, s)] := Qo_end (by kernel_rfl) s
theorem k22_28_c : C 22 k22_28 s = O 22 k22_28 0 s := Qc_region (id := 9) (ops := regOps k22_28) (by kernel_rfl) (by kernel_rfl) s
theorem k22_28_0 : O 22 k22_28 0 s = stepV s (some 61) (some { v := (R s 10) }) (O 22 k22_28 1) := oR (by kernel_rfl)
theorem k22_28_1 : O 22 k22_28 1 s = stepV s (some 62) (some { v := (R s 10) }) (O 22 k22_28 2) := oR (by kernel_rfl)
theorem k22_28_2 : O 22 k22_28 2 s = stepV s (some 63) (xNilCheck Tryz.prog (R s 62)) (O 22 k22_28 3) := oR (by kernel_rfl)
theorem k22_28_3 : O 22 k22_28 3 s = stepV s (some 64) (val (addrAdd (R s 63) 7)) (O 22 k22_28 4) := oR (by kernel_rfl)
theorem k22_28_4 : O 22 k22_28 4 s = stepV s (some 65) (xLoad Tryz.prog 80 s.h.get (R s 64)) (O 22 k22_28 5) := oR (by kernel_rfl)
theorem k22_28_5 : O 22 k22_28 5 s = stepV s (some 66) (val (build Tryz.prog 126 [])) (O 22 k22_28 6) := oR (by kernel_rfl)
theorem k22_28_6 : O 22 k22_28 6 s = stepV s (some 67) (litS Tryz.prog false 80 1 [(0, (R s 66))] s.h.n) (O 22 k22_28 7) := oR (by kernel_rfl)
theorem k22_28_7 : O 22 k22_28 7 s = stepV s (some 68) (builtinV Tryz.prog true s.h.get s.h.n .append [80, 80] [(R s 65), (R s 67)]) (O 22 k22_28 8) := oR (by kernel_rfl)
theorem k22_28_8 : O 22 k22_28 8 s = stepV s (some 69) (xNilCheck Tryz.prog (R s 61)) (O 22 k22_28 9) := oR (by kernel_rfl)
theorem k22_28_9 : O 22 k22_28 9 s = stepV s (some 70) (val (addrAdd (R s 69) 7)) (O 22 k22_28 10) := oR (by kernel_rfl)
theorem k22_28_10 : O 22 k22_28 10 s = stepV s none (xStore Tryz.prog 80 s.h.get (R s 70) (R s 68)) (O 22 k22_28 11) := oR (by kernel_rfl)
theorem k22_28_11 : O 22 k22_28 11 s = some [(.normal, s)] := Qo_end (by kernel_rfl) s
theorem k22_19_c : C 22 k22_19 s = O 22 k22_19 0 s := Qc_region (id := 10) (ops := regOps k22_19) (by kernel_rfl) (by kernel_rfl) s
theorem k22_19_0 : O 22 k22_19 0 s = stepV s (some 71) (val (binV Tryz.prog .add 3 false true (R s 31) (.int .i64 (1)))) (O 22 k22_19 1) := oR (by kernel_rfl)
theorem k22_19_1 : O 22 k22_19 1 s = stepV s (some 31) (some { v := (R s 71) }) (O 22 k22_19 2) := oR (by kernel_rfl)
theorem k22_19_2 : O 22 k22_19 2 s = some [(.normal, s)] := Qo_end (by kernel_rfl) s
def k22_29 : Code := codeA k22_7
def k22_30 : Code := codeB k22_7
theorem k22_7_c : C 22 k22_7 s = thenV (C 22 k22_29 s) (C 22 k22_30) := Qc_seq (a := k22_29) (b := k22_30) (by kernel_rfl) _ _
def k22_31 : Code := codeA k22_29
def k22_32 : Code := codeB k22_29
theorem k22_29_c : C 22 k22_29 s = thenV (C 22 k22_31 s) (C 22 k22_32) := Qc_seq (a := k22_31) (b := k22_32) (by kernel_rfl) _ _
theorem k22_31_c : C 22 k22_31 s = O 22 k22_31 0 s := Qc_region (id := 11) (ops := regOps k22_31) (by kernel_rfl) (by kernel_rfl) s
theorem k22_31_0 : O 22 k22_31 0 s = stepV s (some 72) (some { v := (R s 1) }) (O 22 k22_31 1) := oR (by kernel_rfl)
theorem k22_31_1 : O 22 k22_31 1 s = stepV s (some 73) (builtinV Tryz.prog false s.h.get s.h.n .len [22] [(R s 72)]) (O 22 k22_31 2) := oR (by kernel_rfl)
theorem k22_31_2 : O 22 k22_31 2 s = stepV s (some 74) (some { v := (.int .i64 (0)) }) (O 22 k22_31 3) := oR (by kernel_rfl)
theorem k22_31_3 : O 22 k22_31 3 s = some [(.normal, s)] := Qo_end (by kernel_rfl) s
def k22_33 : Code := codeA k22_32
theorem k22_32_c : C 22 k22_32 s = blockV 2 (C 22 k22_33 s) := Qc_block (b := k22_33) (by kernel_rfl) _ _
def k22_34 : Code := codeA k22_33
theorem k22_33_l : C 22 k22_33 s = thenV (C 22 k22_34 s) (C 22 k22_33) := Qc_loop (b := k22_34) (by kernel_rfl) _ _
def k22_35 : Code := codeA k22_34
def k22_36 : Code := codeB k22_34
theorem k22_34_c : C 22 k22_34 s = thenV (C 22 k22_35 s) (C 22 k22_36) := Qc_seq (a := k22_35) (b := k22_36) (by kernel_rfl) _ _
theorem k22_35_c : C 22 k22_35 s = O 22 k22_35 0 s := Qc_region (id := 12) (ops := regOps k22_35) (by kernel_rfl) (by kernel_rfl) s
theorem k22_35_0 : O 22 k22_35 0 s = stepV s (some 75) (val (binV Tryz.prog .lss 3 false false (R s 74) (R s 73))) (O 22 k22_35 1) := oR (by kernel_rfl)
theorem k22_35_1 : O 22 k22_35 1 s = some [(.normal, s)] := Qo_end (by kernel_rfl) s
def k22_37 : Code := codeA k22_36
def k22_38 : Code := codeB k22_36
theorem k22_36_c : C 22 k22_36 s = thenV (C 22 k22_37 s) (C 22 k22_38) := Qc_seq (a := k22_37) (b := k22_38) (by kernel_rfl) _ _
def k22_39 : Code := codeA k22_37
def k22_40 : Code := codeB k22_37
theorem k22_37_c : C 22 k22_37 s = condV (R s 75) (C 22 k22_39) (C 22 k22_40) s := Qc_cond (t := 75) (a := k22_39) (b := k22_40) (by kernel_rfl) _ _
theorem k22_39_c : C 22 k22_39 s = some [(.normal, s)] := Qc_skip (by kernel_rfl) _ _
theorem k22_40_c : C 22 k22_40 s = some [(.exit 2, s)] := Qc_exit (by kernel_rfl) _ _
def k22_41 : Code := codeA k22_38
def k22_42 : Code := codeB k22_38
theorem k22_38_c : C 22 k22_38 s = thenV (C 22 k22_41 s) (C 22 k22_42) := Qc_seq (a := k22_41) (b := k22_42) (by kernel_rfl) _ _
def k22_43 : Code := codeA k22_41
theorem k22_41_c : C 22 k22_41 s = blockV 3 (C 22 k22_43 s) := Qc_block (b := k22_43) (by kernel_rfl) _ _
def k22_44 : Code := codeA k22_43
def k22_45 : Code := codeB k22_43
theorem k22_43_c : C 22 k22_43 s = thenV (C 22 k22_44 s) (C 22 k22_45) := Qc_seq (a := k22_44) (b := k22_45) (by kernel_rfl) _ _
theorem k22_44_c : C 22 k22_44 s = O 22 k22_44 0 s := Qc_region (id := 13) (ops := regOps k22_44) (by kernel_rfl) (by kernel_rfl) s
theorem k22_44_0 : O 22 k22_44 0 s = stepV s (some 76) (some { v := (R s 74) }) (O 22 k22_44 1) := oR (by kernel_rfl)
theorem k22_44_1 : O 22 k22_44 1 s = stepV s (some 77) (val (indexAddr Tryz.prog 22 (R s 72) (R s 74))) (O 22 k22_44 2) := oR (by kernel_rfl)
theorem k22_44_2 : O 22 k22_44 2 s = stepV s (some 78) (xLoad Tryz.prog 42 s.h.get (R s 77)) (O 22 k22_44 3) := oR (by kernel_rfl)
theorem k22_44_3 : O 22 k22_44 3 s = stepV s (some 13) (some { v := .ptr s.h.n 0, nw := [.row 0 [.int .i64 (0), .int .i64 (0)]] }) (O 22 k22_44 4) := oR (by kernel_rfl)
theorem k22_44_4 : O 22 k22_44 4 s = stepV s (some 12) (some { v := (R s 76) }) (O 22 k22_44 5) := oR (by kernel_rfl)
theorem k22_44_5 : O 22 k22_44 5 s = stepV s none (xStore Tryz.prog 42 s.h.get (R s 13) (R s 78)) (O 22 k22_44 6) := oR (by kernel_rfl)
theorem k22_44_6 : O 22 k22_44 6 s = some [(.normal, s)] := Qo_end (by kernel_rfl) s
def k22_46 : Code := codeA k22_45
def k22_47 : Code := codeB k22_45
theorem k22_45_c : C 22 k22_45 s = thenV (C 22 k22_46 s) (C 22 k22_47) := Qc_seq (a := k22_46) (b := k22_47) (by kernel_rfl) _ _
theorem k22_46_c : C 22 k22_46 s = O 22 k22_46 0 s := Qc_region (id := 14) (ops := regOps k22_46) (by kernel_rfl) (by kernel_rfl) s
theorem k22_46_0 : O 22 k22_46 0 s = stepV s (some 79) (some { v := (R s 0) }) (O 22 k22_46 1) := oR (by kernel_rfl)
theorem k22_46_1 : O 22 k22_46 1 s = stepV s (some 80) (some { v := (R s 12) }) (O 22 k22_46 2) := oR (by kernel_rfl)
theorem k22_46_2 : O 22 k22_46 2 s = stepV s (some 81) (val (binV Tryz.prog .add 3 false false (R s 79) (R s 80))) (O 22 k22_46 3) := oR (by kernel_rfl)
theorem k22_46_3 : O 22 k22_46 3 s = stepV s (some 14) (some { v := (R s 81) }) (O 22 k22_46 4) := oR (by kernel_rfl)
theorem k22_46_4 : O 22 k22_46 4 s = some [(.normal, s)] := Qo_end (by kernel_rfl) s
def k22_48 : Code := codeA k22_47
def k22_49 : Code := codeB k22_47
theorem k22_47_c : C 22 k22_47 s = thenV (C 22 k22_48 s) (C 22 k22_49) := Qc_seq (a := k22_48) (b := k22_49) (by kernel_rfl) _ _
def k22_48_bef : List Nat := [0, 1, 3, 7, 0, 16, 48, 112, 0, 256, 1008, 2032, 0, 4096, 12288, 28672, 0, 65536, 196608, 458752, 0, 1048576, 4128768, 8323072, 16773120, 33550336, 0, 67108864, 268431360, 536870911, 1073741823]
theorem k22_48_c : C 22 k22_48 s = D 22 k22_48 k22_48_bef 0 [] s := Qc_draw (id := 15) (ops := regOps k22_48) (by kernel_rfl) (by kernel_rfl) (by kernel_rfl) (by kernel_rfl) s
theorem k22_48_0 : D 22 k22_48 k22_48_bef 0 dn s = stepD s (some 82) 0 k22_48_bef dn (some { v := (R s 10) }) (D 22 k22_48 k22_48_bef 1) := dR (by kernel_rfl)
theorem k22_48_1 : D 22 k22_48 k22_48_bef 1 dn s = stepD s (some 83) 1 k22_48_bef dn (xNilCheck Tryz.prog (R s 82)) (D 22 k22_48 k22_48_bef 2) := dR (by kernel_rfl)
theorem k22_48_2 : D 22 k22_48 k22_48_bef 2 dn s = stepD s (some 84) 2 k22_48_bef dn (val (addrAdd (R s 83) 4)) (D 22 k22_48 k22_48_bef 3) := dR (by kernel_rfl)
theorem k22_48_3 : D 22 k22_48 k22_48_bef 3 dn s = stepD s (some 85) 3 k22_48_bef dn (xLoad Tryz.prog 78 s.h.get (R s 84)) (D 22 k22_48 k22_48_bef 4) := dR (by kernel_rfl)
theorem k22_48_4 : D 22 k22_48 k22_48_bef 4 dn s = stepD s (some 86) 4 k22_48_bef dn (some { v := (R s 10) }) (D 22 k22_48 k22_48_bef 5) := dR (by kernel_rfl)
theorem k22_48_5 : D 22 k22_48 k22_48_bef 5 dn s = stepD s (some 87) 5 k22_48_bef dn (xNilCheck Tryz.prog (R s 86)) (D 22 k22_48 k22_48_bef 6) := dR (by kernel_rfl)
theorem k22_48_6 : D 22 k22_48 k22_48_bef 6 dn s = stepD s (some 88) 6 k22_48_bef dn (val (addrAdd (R s 87) 2)) (D 22 k22_48 k22_48_bef 7) := dR (by kernel_rfl)
theorem k22_48_7 : D 22 k22_48 k22_48_bef 7 dn s = stepD s (some 89) 7 k22_48_bef dn (xLoad Tryz.prog 27 s.h.get (R s 88)) (D 22 k22_48 k22_48_bef 8) := dR (by kernel_rfl)
theorem k22_48_8 : D 22 k22_48 k22_48_bef 8 dn s = stepD s (some 90) 8 k22_48_bef dn (val (indexAddr Tryz.prog 42 (R s 13) (.int .i64 (0)))) (D 22 k22_48 k22_48_bef 9) := dR (by kernel_rfl)
theorem k22_48_9 : D 22 k22_48 k22_48_bef 9 dn s = stepD s (some 91) 9 k22_48_bef dn (xLoad Tryz.prog 3 s.h.get (R s 90)) (D 22 k22_48 k22_48_bef 10) := dR (by kernel_rfl)
theorem k22_48_10 : D 22 k22_48 k22_48_bef 10 dn s = stepD s (some 92) 10 k22_48_bef dn (val (indexAddr Tryz.prog 27 (R s 89) (R s 91))) (D 22 k22_48 k22_48_bef 11) := dR (by kernel_rfl)
theorem k22_48_11 : D 22 k22_48 k22_48_bef 11 dn s = stepD s (some 93) 11 k22_48_bef dn (xLoad Tryz.prog 3 s.h.get (R s 92)) (D 22 k22_48 k22_48_bef 12) := dR (by kernel_rfl)
theorem k22_48_12 : D 22 k22_48 k22_48_bef 12 dn s = stepD s (some 94) 12 k22_48_bef dn (some { v := (R s 10) }) (D 22 k22_48 k22_48_bef 13) := dR (by kernel_rfl)
theorem k22_48_13 : D 22 k22_48 k22_48_bef 13 dn s = stepD s (some 95) 13 k22_48_bef dn (xNilCheck Tryz.prog (R s 94)) (D 22 k22_48 k22_48_bef 14) := dR (by kernel_rfl)
theorem k22_48_14 : D 22 k22_48 k22_48_bef 14 dn s = stepD s (some 96) 14 k22_48_bef dn (val (addrAdd (R s 95) 4)) (D 22 k22_48 k22_48_bef 15) := dR (by kernel_rfl)
theorem k22_48_15 : D 22 k22_48 k22_48_bef 15 dn s = stepD s (some 97) 15 k22_48_bef dn (xLoad Tryz.prog 78 s.h.get (R s 96)) (D 22 k22_48 k22_48_bef 16) := dR (by kernel_rfl)
theorem k22_48_16 : D 22 k22_48 k22_48_bef 16 dn s = stepD s (some 98) 16 k22_48_bef dn (some { v := (R s 10) }) (D 22 k22_48 k22_48_bef 17) := dR (by kernel_rfl)
theorem k22_48_17 : D 22 k22_48 k22_48_bef 17 dn s = stepD s (some 99) 17 k22_48_bef dn (xNilCheck Tryz.prog (R s 98)) (D 22 k22_48 k22_48_bef 18) := dR (by kernel_rfl)
theorem k22_48_18 : D 22 k22_48 k22_48_bef 18 dn s = stepD s (some 100) 18 k22_48_bef dn (val (addrAdd (R s 99) 2)) (D 22 k22_48 k22_48_bef 19) := dR (by kernel_rfl)
theorem k22_48_19 : D 22 k22_48 k22_48_bef 19 dn s = stepD s (some 101) 19 k22_48_bef dn (xLoad Tryz.prog 27 s.h.get (R s 100)) (D 22 k22_48 k22_48_bef 20) := dR (by kernel_rfl)
theorem k22_48_20 : D 22 k22_48 k22_48_bef 20 dn s = stepD s (some 102) 20 k22_48_bef dn (val (indexAddr Tryz.prog 42 (R s 13) (.int .i64 (0)))) (D 22 k22_48 k22_48_bef 21) := dR (by kernel_rfl)
theorem k22_48_21 : D 22 k22_48 k22_48_bef 21 dn s = stepD s (some 103) 21 k22_48_bef dn (xLoad Tryz.prog 3 s.h.get (R s 102)) (D 22 k22_48 k22_48_bef 22) := dR (by kernel_rfl)
theorem k22_48_22 : D 22 k22_48 k22_48_bef 22 dn s = stepD s (some 104) 22 k22_48_bef dn (val (indexAddr Tryz.prog 27 (R s 101) (R s 103))) (D 22 k22_48 k22_48_bef 23) := dR (by kernel_rfl)
theorem k22_48_23 : D 22 k22_48 k22_48_bef 23 dn s = stepD s (some 105) 23 k22_48_bef dn (xLoad Tryz.prog 3 s.h.get (R s 104)) (D 22 k22_48 k22_48_bef 24) := dR (by kernel_rfl)
theorem k22_48_24 : D 22 k22_48 k22_48_bef 24 dn s = stepD s (some 106) 24 k22_48_bef dn (val (indexAddr Tryz.prog 78 (R s 97) (R s 105))) (D 22 k22_48 k22_48_bef 25) := dR (by kernel_rfl)
theorem k22_48_25 : D 22 k22_48 k22_48_bef 25 dn s = stepD s (some 107) 25 k22_48_bef dn (xLoad Tryz.prog 27 s.h.get (R s 106)) (D 22 k22_48 k22_48_bef 26) := dR (by kernel_rfl)
theorem k22_48_26 : D 22 k22_48 k22_48_bef 26 dn s = stepD s (some 108) 26 k22_48_bef dn (some { v := (R s 14) }) (D 22 k22_48 k22_48_bef 27) := dR (by kernel_rfl)
theorem k22_48_27 : D 22 k22_48 k22_48_bef 27 dn s = stepD s (some 109) 27 k22_48_bef dn (litS Tryz.prog false 27 1 [(0, (R s 108))] s.h.n) (D 22 k22_48 k22_48_bef 28) := dR (by kernel_rfl)
theorem k22_48_28 : D 22 k22_48 k22_48_bef 28 dn s = stepD s (some 110) 28 k22_48_bef dn (builtinV Tryz.prog false s.h.get s.h.n .append [27, 27] [(R s 107), (R s 109)]) (D 22 k22_48 k22_48_bef 29) := dR (by kernel_rfl)
theorem k22_48_29 : D 22 k22_48 k22_48_bef 29 dn s = stepD s (some 111) 29 k22_48_bef dn (val (indexAddr Tryz.prog 78 (R s 85) (R s 93))) (D 22 k22_48 k22_48_bef 30) := dR (by kernel_rfl)
theorem k22_48_30 : D 22 k22_48 k22_48_bef 30 dn s = stepD s none 30 k22_48_bef dn (xStore Tryz.prog 27 s.h.get (R s 111) (R s 110)) (D 22 k22_48 k22_48_bef 31) := dR (by kernel_rfl)
theorem k22_48_31 : D 22 k22_48 k22_48_bef 31 dn s = some [(.normal, s)] := Qd_end (by kernel_rfl) dn s
def k22_50 : Code := codeA k22_49
def k22_51 : Code := codeB k22_49
theorem k22_49_c : C 22 k22_49 s = thenV (C 22 k22_50 s) (C 22 k22_51) := Qc_seq (a := k22_50) (b := k22_51) (by kernel_rfl) _ _
def k22_50_bef : List Nat := [0, 1, 3, 7, 0, 16, 48, 112, 0, 256, 1008, 2032, 0, 4096, 12288, 28672, 0, 65536, 196608, 458752, 0, 1048576, 4128768, 8323072, 16773120, 33550336, 0, 67108864, 268431360, 536870911, 1073741823]
theorem k22_50_c : C 22 k22_50 s = D 22 k22_50 k22_50_bef 0 [] s := Qc_draw (id := 16) (ops := regOps k22_50) (by kernel_rfl) (by kernel_rfl) (by kernel_rfl) (by kernel_rfl) s
theorem k22_50_0 : D 22 k22_50 k22_50_bef 0 dn s = stepD s (some 112) 0 k22_50_bef dn (some { v := (R s 10) }) (D 22 k22_50 k22_50_bef 1) := dR (by kernel_rfl)
theorem k22_50_1 : D 22 k22_50 k22_50_bef 1 dn s = stepD s (some 113) 1 k22_50_bef dn (xNilCheck Tryz.prog (R s 112)) (D 22 k22_50 k22_50_bef 2) := dR (by kernel_rfl)
theorem k22_50_2 : D 22 k22_50 k22_50_bef 2 dn s = stepD s (some 114) 2 k22_50_bef dn (val (addrAdd (R s 113) 4)) (D 22 k22_50 k22_50_bef 3) := dR (by kernel_rfl)
theorem k22_50_3 : D 22 k22_50 k22_50_bef 3 dn s = stepD s (some 115) 3 k22_50_bef dn (xLoad Tryz.prog 78 s.h.get (R s 114)) (D 22 k22_50 k22_50_bef 4) := dR (by kernel_rfl)
theorem k22_50_4 : D 22 k22_50 k22_50_bef 4 dn s = stepD s (some 116) 4 k22_50_bef dn (some { v := (R s 10) }) (D 22 k22_50 k22_50_bef 5) := dR (by kernel_rfl)
theorem k22_50_5 : D 22 k22_50 k22_50_bef 5 dn s = stepD s (some 117) 5 k22_50_bef dn (xNilCheck Tryz.prog (R s 116)) (D 22 k22_50 k22_50_bef 6) := dR (by kernel_rfl)
theorem k22_50_6 : D 22 k22_50 k22_50_bef 6 dn s = stepD s (some 118) 6 k22_50_bef dn (val (addrAdd (R s 117) 2)) (D 22 k22_50 k22_50_bef 7) := dR (by kernel_rfl)
theorem k22_50_7 : D 22 k22_50 k22_50_bef 7 dn s = stepD s (some 119) 7 k22_50_bef dn (xLoad Tryz.prog 27 s.h.get (R s 118)) (D 22 k22_50 k22_50_bef 8) := dR (by kernel_rfl)
theorem k22_50_8 : D 22 k22_50 k22_50_bef 8 dn s = stepD s (some 120) 8 k22_50_bef dn (val (indexAddr Tryz.prog 42 (R s 13) (.int .i64 (1)))) (D 22 k22_50 k22_50_bef 9) := dR (by kernel_rfl)
theorem k22_50_9 : D 22 k22_50 k22_50_bef 9 dn s = stepD s (some 121) 9 k22_50_bef dn (xLoad Tryz.prog 3 s.h.get (R s 120)) (D 22 k22_50 k22_50_bef 10) := dR (by kernel_rfl)
theorem k22_50_10 : D 22 k22_50 k22_50_bef 10 dn s = stepD s (some 122) 10 k22_50_bef dn (val (indexAddr Tryz.prog 27 (R s 119) (R s 121))) (D 22 k22_50 k22_50_bef 11) := dR (by kernel_rfl)
theorem k22_50_11 : D 22 k22_50 k22_50_bef 11 dn s = stepD s (some 123) 11 k22_50_bef dn (xLoad Tryz.prog 3 s.h.get (R s 122)) (D 22 k22_50 k22_50_bef 12) := dR (by kernel_rfl)
theorem k22_50_12 : D 22 k22_50 k22_50_bef 12 dn s = stepD s (some 124) 12 k22_50_bef dn (some { v := (R s 10) }) (D 22 k22_50 k22_50_bef 13) := dR (by kernel_rfl)
theorem k22_50_13 : D 22 k22_50 k22_50_bef 13 dn s = stepD s (some 125) 13 k22_50_bef dn (xNilCheck Tryz.prog (R s 124)) (D 22 k22_50 k22_50_bef 14) := dR (by kernel_rfl)
theorem k22_50_14 : D 22 k22_50 k22_50_bef 14 dn s = stepD s (some 126) 14 k22_50_bef dn (val (addrAdd (R s 125) 4)) (D 22 k22_50 k22_50_bef 15) := dR (by kernel_rfl)
theorem k22_50_15 : D 22 k22_50 k22_50_bef 15 dn s = stepD s (some 127) 15 k22_50_bef dn (xLoad Tryz.prog 78 s.h.get (R s 126)) (D 22 k22_50 k22_50_bef 16) := dR (by kernel_rfl)
theorem k22_50_16 : D 22 k22_50 k22_50_bef 16 dn s = stepD s (some 128) 16 k22_50_bef dn (some { v := (R s 10) }) (D 22 k22_50 k22_50_bef 17) := dR (by kernel_rfl)
theorem k22_50_17 : D 22 k22_50 k22_50_bef 17 dn s = stepD s (some 129) 17 k22_50_bef dn (xNilCheck Tryz.prog (R s 128)) (D 22 k22_50 k22_50_bef 18) := dR (by kernel_rfl)
theorem k22_50_18 : D 22 k22_50 k22_50_bef 18 dn s = stepD s (some 130) 18 k22_50_bef dn (val (addrAdd (R s 129) 2)) (D 22 k22_50 k22_50_bef 19) := dR (by kernel_rfl)
theorem k22_50_19 : D 22 k22_50 k22_50_bef 19 dn s = stepD s (some 131) 19 k22_50_bef dn (xLoad Tryz.prog 27 s.h.get (R s 130)) (D 22 k22_50 k22_50_bef 20) := dR (by kernel_rfl)
theorem k22_50_20 : D 22 k22_50 k22_50_bef 20 dn s = stepD s (some 132) 20 k22_50_bef dn (val (indexAddr Tryz.prog 42 (R s 13) (.int .i64 (1)))) (D 22 k22_50 k22_50_bef 21) := dR (by kernel_rfl)
theorem k22_50_21 : D 22 k22_50 k22_50_bef 21 dn s = stepD s (some 133) 21 k22_50_bef dn (xLoad Tryz.prog 3 s.h.get (R s 132)) (D 22 k22_50 k22_50_bef 22) := dR (by kernel_rfl)
theorem k22_50_22 : D 22 k22_50 k22_50_bef 22 dn s = stepD s (some 134) 22 k22_50_bef dn (val (indexAddr Tryz.prog 27 (R s 131) (R s 133))) (D 22 k22_50 k22_50_bef 23) := dR (by kernel_rfl)
theorem k22_50_23 : D 22 k22_50 k22_50_bef 23 dn s = stepD s (some 135) 23 k22_50_bef dn (xLoad Tryz.prog 3 s.h.get (R s 134)) (D 22 k22_50 k22_50_bef 24) := dR (by kernel_rfl)
theorem k22_50_24 : D 22 k22_50 k22_50_bef 24 dn s = stepD s (some 136) 24 k22_50_bef dn (val (indexAddr Tryz.prog 78 (R s 127) (R s 135))) (D 22 k22_50 k22_50_bef 25) := dR (by kernel_rfl)
theorem k22_50_25 : D 22 k22_50 k22_50_bef 25 dn s = stepD s (some 137) 25 k22_50_bef dn (xLoad Tryz.prog 27 s.h.get (R s 136)) (D 22 k22_50 k22_50_bef 26) := dR (by kernel_rfl)
theorem k22_50_26 : D 22 k22_50 k22_50_bef 26 dn s = stepD s (some 138) 26 k22_50_bef dn (some { v := (R s 14) }) (D 22 k22_50 k22_50_bef 27) := dR (by kernel_rfl)
theorem k22_50_27 : D 22 k22_50 k22_50_bef 27 dn s = stepD s (some 139) 27 k22_50_bef dn (litS Tryz.prog false 27 1 [(0, (R s 138))] s.h.n) (D 22 k22_50 k22_50_bef 28) := dR (by kernel_rfl)
theorem k22_50_28 : D 22 k22_50 k22_50_bef 28 dn s = stepD s (some 140) 28 k22_50_bef dn (builtinV Tryz.prog false s.h.get s.h.n .append [27, 27] [(R s 137), (R s 139)]) (D 22 k22_50 k22_50_bef 29) := dR (by kernel_rfl)
theorem k22_50_29 : D 22 k22_50 k22_50_bef 29 dn s = stepD s (some 141) 29 k22_50_bef dn (val (indexAddr Tryz.prog 78 (R s 115) (R s 123))) (D 22 k22_50 k22_50_bef 30) := dR (by kernel_rfl)
theorem k22_50_30 : D 22 k22_50 k22_50_bef 30 dn s = stepD s none 30 k22_50_bef dn (xStore Tryz.prog 27 s.h.get (R s 141) (R s 140)) (D 22 k22_50 k22_50_bef 31) := dR (by kernel_rfl)
theorem k22_50_31 : D 22 k22_50 k22_50_bef 31 dn s = some [(.normal, s)] := Qd_end (by kernel_rfl) dn s
theorem k22_51_c : C 22 k22_51 s = O 22 k22_51 0 s := Qc_region (id := 17) (ops := regOps k22_51) (by kernel_rfl) (by kernel_rfl) s
theorem k22_51_0 : O 22 k22_51 0 s = stepV s (some 142) (some { v := (R s 10) }) (O 22 k22_51 1) := oR (by kernel_rfl)
theorem k22_51_1 : O 22 k22_51 1 s = stepV s (some 143) (some { v := (R s 14) }) (O 22 k22_51 2) := oR (by kernel_rfl)
theorem k22_51_2 : O 22 k22_51 2 s = thenC (some 144) s (callS Tryz.prog hs ks 48 [(R s 142), (R s 143)] s.h) (O 22 k22_51 3) := cR (by kernel_rfl)
theorem k22_51_3 : O 22 k22_51 3 s = some [(.normal, s)] := Qo_end (by kernel_rfl) s
theorem k22_42_c : C 22 k22_42 s = O 22 k22_42 0 s := Qc_region (id := 18) (ops := regOps k22_42) (by kernel_rfl) (by kernel_rfl) s
theorem k22_42_0 : O 22 k22_42 0 s = stepV s (some 145) (val (binV Tryz.prog .add 3 false true (R s 74) (.int .i64 (1)))) (O 22 k22_42 1) := oR (by kernel_rfl)
theorem k22_42_1 : O 22 k22_42 1 s = stepV s (some 74) (some { v := (R s 145) }) (O 22 k22_42 2) := oR (by kernel_rfl)
theorem k22_42_2 : O 22 k22_42 2 s = some [(.normal, s)] := Qo_end (by kernel_rfl) s
def k22_52 : Code := codeA k22_30
def k22_53 : Code := codeB k22_30
theorem k22_30_c : C 22 k22_30 s = thenV (C 22 k22_52 s) (C 22 k22_53) := Qc_seq (a := k22_52) (b := k22_53) (by kernel_rfl) _ _
def k22_54 : Code := codeA k22_52
def k22_55 : Code := codeB k22_52
theorem k22_52_c : C 22 k22_52 s = thenV (C 22 k22_54 s) (C 22 k22_55) := Qc_seq (a := k22_54) (b := k22_55) (by kernel_rfl) _ _
theorem k22_54_c : C 22 k22_54 s = O 22 k22_54 0 s := Qc_region (id := 19) (ops := regOps k22_54) (by kernel_rfl) (by kernel_rfl) s
theorem k22_54_0 : O 22 k22_54 0 s = stepV s (some 146) (some { v := (R s 2) }) (O 22 k22_54 1) := oR (by kernel_rfl)
theorem k22_54_1 : O 22 k22_54 1 s = stepV s (some 147) (builtinV Tryz.prog false s.h.get s.h.n .len [22] [(R s 146)]) (O 22 k22_54 2) := oR (by kernel_rfl)
theorem k22_54_2 : O 22 k22_54 2 s = stepV s (some 148) (some { v := (.int .i64 (0)) }) (O 22 k22_54 3) := oR (by kernel_rfl)
theorem k22_54_3 : O 22 k22_54 3 s = some [(.normal, s)] := Qo_end (by kernel_rfl) s
def k22_56 : Code := codeA k22_55
theorem k22_55_c : C 22 k22_55 s = blockV 4 (C 22 k22_56 s) := Qc_block (b := k22_56) (by kernel_rfl) _ _
def k22_57 : Code := codeA k22_56
theorem k22_56_l : C 22 k22_56 s = thenV (C 22 k22_57 s) (C 22 k22_56) := Qc_loop (b := k22_57) (by kernel_rfl) _ _
def k22_58 : Code := codeA k22_57
def k22_59 : Code := codeB k22_57
theorem k22_57_c : C 22 k22_57 s = thenV (C 22 k22_58 s) (C 22 k22_59) := Qc_seq (a := k22_58) (b := k22_59) (by kernel_rfl) _ _
theorem k22_58_c : C 22 k22_58 s = O 22 k22_58 0 s := Qc_region (id := 20) (ops := regOps k22_58) (by kernel_rfl) (by kernel_rfl) s
theorem k22_58_0 : O 22 k22_58 0 s = stepV s (some 149) (val (binV Tryz.prog .lss 3 false false (R s 148) (R s 147))) (O 22 k22_58 1) := oR (by kernel_rfl)
theorem k22_58_1 : O 22 k22_58 1 s = some [(.normal, s)] := Qo_end (by kernel_rfl) s
def k22_60 : Code := codeA k22_59
def k22_61 : Code := codeB k22_59
theorem k22_59_c : C 22 k22_59 s = thenV (C 22 k22_60 s) (C 22 k22_61) := Qc_seq (a := k22_60) (b := k22_61) (by kernel_rfl) _ _
def k22_62 : Code := codeA k22_60
def k22_63 : Code := codeB k22_60
theorem k22_60_c : C 22 k22_60 s = condV (R s 149) (C 22 k22_62) (C 22 k22_63) s := Qc_cond (t := 149) (a := k22_62) (b := k22_63) (by kernel_rfl) _ _
theorem k22_62_c : C 22 k22_62 s = some [(.normal, s)] := Qc_skip (by kernel_rfl) _ _
theorem k22_63_c : C 22 k22_63 s = some [(.exit 4, s)] := Qc_exit (by kernel_rfl) _ _
def k22_64 : Code := codeA k22_61
def k22_65 : Code := codeB k22_61
theorem k22_61_c : C 22 k22_61 s = thenV (C 22 k22_64 s) (C 22 k22_65) := Qc_seq (a := k22_64) (b := k22_65) (by kernel_rfl) _ _
def k22_66 : Code := codeA k22_64
theorem k22_64_c : C 22 k22_64 s = blockV 5 (C 22 k22_66 s) := Qc_block (b := k22_66) (by kernel_rfl) _ _
def k22_67 : Code := codeA k22_66
def k22_68 : Code := codeB k22_66
theorem k22_66_c : C 22 k22_66 s = thenV (C 22 k22_67 s) (C 22 k22_68) := Qc_seq (a := k22_67) (b := k22_68) (by kernel_rfl) _ _
theorem k22_67_c : C 22 k22_67 s = O 22 k22_67 0 s := Qc_region (id := 21) (ops := regOps k22_67) (by kernel_rfl) (by kernel_rfl) s
theorem k22_67_0 : O 22 k22_67 0 s = stepV s (some 150) (some { v := (R s 148) }) (O 22 k22_67 1) := oR (by kernel_rfl)
theorem k22_67_1 : O 22 k22_67 1 s = stepV s (some 151) (val (indexAddr Tryz.prog 22 (R s 146) (R s 148))) (O 22 k22_67 2) := oR (by kernel_rfl)
theorem k22_67_2 : O 22 k22_67 2 s = stepV s (some 152) (xLoad Tryz.prog 42 s.h.get (R s 151)) (O 22 k22_67 3) := oR (by kernel_rfl)
theorem k22_67_3 : O 22 k22_67 3 s = stepV s (some 16) (some { v := .ptr s.h.n 0, nw := [.row 0 [.int .i64 (0), .int .i64 (0)]] }) (O 22 k22_67 4) := oR (by kernel_rfl)
theorem k22_67_4 : O 22 k22_67 4 s = stepV s (some 15) (some { v := (R s 150) }) (O 22 k22_67 5) := oR (by kernel_rfl)
theorem k22_67_5 : O 22 k22_67 5 s = stepV s none (xStore Tryz.prog 42 s.h.get (R s 16) (R s 152)) (O 22 k22_67 6) := oR (by kernel_rfl)
theorem k22_67_6 : O 22 k22_67 6 s = some [(.normal, s)] := Qo_end (by kernel_rfl) s
def k22_69 : Code := codeA k22_68
def k22_70 : Code := codeB k22_68
theorem k22_68_c : C 22 k22_68 s = thenV (C 22 k22_69 s) (C 22 k22_70) := Qc_seq (a := k22_69) (b := k22_70) (by kernel_rfl) _ _
theorem k22_69_c : C 22 k22_69 s = O 22 k22_69 0 s := Qc_region (id := 22) (ops := regOps k22_69) (by kernel_rfl) (by kernel_rfl) s
theorem k22_69_0 : O 22 k22_69 0 s = stepV s (some 153) (some { v := (R s 3) }) (O 22 k22_69 1) := oR (by kernel_rfl)
theorem k22_69_1 : O 22 k22_69 1 s = stepV s (some 154) (some { v := (R s 15) }) (O 22 k22_69 2) := oR (by kernel_rfl)
theorem k22_69_2 : O 22 k22_69 2 s = thenC (some 155) s (callX Tryz.prog hs ks (callOf (R s 153) [(R s 154)]) s.h) (O 22 k22_69 3) := xR (by kernel_rfl)
theorem k22_69_3 : O 22 k22_69 3 s = some [(.normal, s)] := Qo_end (by kernel_rfl) s
def k22_71 : Code := codeA k22_70
def k22_72 : Code := codeB k22_70
theorem k22_70_c : C 22 k22_70 s = condV (R s 155) (C 22 k22_71) (C 22 k22_72) s := Qc_cond (t := 155) (a := k22_71) (b := k22_72) (by kernel_rfl) _ _
theorem k22_71_c : C 22 k22_71 s = O 22 k22_71 0 s := Qc_region (id := 23) (ops := regOps k22_71) (by kernel_rfl) (by kernel_rfl) s
theorem k22_71_0 : O 22 k22_71 0 s = stepV s (some 156) (some { v := (R s 10) }) (O 22 k22_71 1) := oR (by kernel_rfl)
theorem k22_71_1 : O 22 k22_71 1 s = stepV s (some 157) (val (indexAddr Tryz.prog 42 (R s 16) (.int .i64 (0)))) (O 22 k22_71 2) := oR (by kernel_rfl)
theorem k22_71_2 : O 22 k22_71 2 s = stepV s (some 158) (xLoad Tryz.prog 3 s.h.get (R s 157)) (O 22 k22_71 3) := oR (by kernel_rfl)
theorem k22_71_3 : O 22 k22_71 3 s = stepV s (some 159) (val (indexAddr Tryz.prog 42 (R s 16) (.int .i64 (1)))) (O 22 k22_71 4) := oR (by kernel_rfl)
theorem k22_71_4 : O 22 k22_71 4 s = stepV s (some 160) (xLoad Tryz.prog 3 s.h.get (R s 159)) (O 22 k22_71 5) := oR (by kernel_rfl)
theorem k22_71_5 : O 22 k22_71 5 s = stepV s (some 161) (some { v := (R s 15) }) (O 22 k22_71 6) := oR (by kernel_rfl)
theorem k22_71_6 : O 22 k22_71 6 s = stepV s (some 162) (val (build Tryz.prog 126 [(0, (R s 158)), (1, (R s 160)), (2, (R s 161))])) (O 22 k22_71 7) := oR (by kernel_rfl)
theorem k22_71_7 : O 22 k22_71 7 s = thenC (some 163) s (callS Tryz.prog hs ks 49 [(R s 156), (R s 162)] s.h) (O 22 k22_71 8) := cR (by kernel_rfl)
theorem k22_71_8 : O 22 k22_71 8 s = some [(.normal, s)] := Qo_end (by kernel_rfl) s
theorem k22_72_c : C 22 k22_72 s = some [(.normal, s)] := Qc_skip (by kernel_rfl) _ _
theorem k22_65_c : C 22 k22_65 s = O 22 k22_65 0 s := Qc_region (id := 24) (ops := regOps k22_65) (by kernel_rfl) (by kernel_rfl) s
theorem k22_65_0 : O 22 k22_65 0 s = stepV s (some 164) (val (binV Tryz.prog .add 3 false true (R s 148) (.int .i64 (1)))) (O 22 k22_65 1) := oR (by kernel_rfl)
theorem k22_65_1 : O 22 k22_65 1 s = stepV s (some 148) (some { v := (R s 164) }) (O 22 k22_65 2) := oR (by kernel_rfl)
theorem k22_65_2 : O 22 k22_65 2 s = some [(.normal, s)] := Qo_end (by kernel_rfl) s
def k22_73 : Code := codeA k22_53
def k22_74 : Code := codeB k22_53
theorem k22_53_c : C 22 k22_53 s = thenV (C 22 k22_73 s) (C 22 k22_74) := Qc_seq (a := k22_73) (b := k22_74) (by kernel_rfl) _ _
theorem k22_73_c : C 22 k22_73 s = O 22 k22_73 0 s := Qc_region (id := 25) (ops := regOps k22_73) (by kernel_rfl) (by kernel_rfl) s
theorem k22_73_0 : O 22 k22_73 0 s = stepV s (some 165) (some { v := (R s 10) }) (O 22 k22_73 1) := oR (by kernel_rfl)
theorem k22_73_1 : O 22 k22_73 1 s = stepV s (some 8) (some { v := (R s 165) }) (O 22 k22_73 2) := oR (by kernel_rfl)
theorem k22_73_2 : O 22 k22_73 2 s = some [(.normal, s)] := Qo_end (by kernel_rfl) s
theorem k22_74_c : C 22 k22_74 s = some [(.ret, s)] := Qc_ret (by kernel_rfl) _ _
end Go.Proofs.YtdlaladdeelegaaGreat.Cg
end
