/- Equations of the code. -/
import Derived.Test.YtdlaladdeelegaaGreatE2
import Derived.KernelRfl
set_option linter.all false
noncomputable section
namespace Go.Proofs.YtdlaladdeelegaaGreat.Cg
open Go Go.Ae
variable (dn:List (Nat×Foot)) (s:St)
def k5:Code:=Tryz.f5.body.getD .skip
end Go.Proofs.YtdlaladdeelegaaGreat.Cg
end
noncomputable section
namespace Go.Proofs.YtdlaladdeelegaaGreat.Cg
open Go Go.Ae
variable (dn:List (Nat×Foot)) (s:St)
def k6:Code:=Tryz.f6.body.getD .skip
theorem Zgk (args:List V) (ha:args.length≤177) (h:H):(EV Tryz.prog hs ks).call 6 args h=endsV Tryz.prog hs ks Tryz.f6 (C 6 k6 (S 177 (setF args 0 fun _=> undefV) [] h)):=Qu Tryz.func6 (by kernel_rfl) (by kernel_rfl) (by decide) rfl ha h
theorem Za9 (f:Nat→V) (h:H):endsV Tryz.prog hs ks Tryz.f6 (some [(.ret,S 177 f [] h)])=resV (resultVs Tryz.prog (S 177 f [] h) [.tmp 4]) h:=Zc (by kernel_rfl) (Or.inl rfl) _ _
def k6_0:Code:=codeA k6
def k6_1:Code:=codeB k6
theorem k6_c:C 6 k6 s=thenV (C 6 k6_0 s) (C 6 k6_1):=za (a:=k6_0) (b:=k6_1) (by kernel_rfl) _ _
theorem Zbl:C 6 k6_0 s=O 6 k6_0 0 s:=zb (id:=0) (ops:=regOps k6_0) (by kernel_rfl) (by kernel_rfl) s
theorem Zbh:O 6 k6_0 0 s=stepV s (some 2) (some { v:=.ptr s.h.n 0,nw:=[.row 0 (V.cells (R s 0))] }) (O 6 k6_0 1):=oR
theorem Zbi:O 6 k6_0 1 s=stepV s (some 3) (some { v:=.ptr s.h.n 0,nw:=[.row 0 (V.cells (R s 1))] }) (O 6 k6_0 2):=oR
theorem Zbj:O 6 k6_0 2 s=stepV s (some 4) (some { v:=(.bool false) }) (O 6 k6_0 3):=oR
theorem Zbk:O 6 k6_0 3 s=some [(.normal,s)]:=zc (by kernel_rfl) s
def k6_2:Code:=codeA k6_1
def k6_3:Code:=codeB k6_1
theorem zZ3:C 6 k6_1 s=thenV (C 6 k6_2 s) (C 6 k6_3):=za (a:=k6_2) (b:=k6_3) (by kernel_rfl) _ _
def k6_4:Code:=codeA k6_2
def k6_5:Code:=codeB k6_2
theorem zZJ:C 6 k6_2 s=thenV (C 6 k6_4 s) (C 6 k6_5):=za (a:=k6_4) (b:=k6_5) (by kernel_rfl) _ _
theorem ZdZ:C 6 k6_4 s=O 6 k6_4 0 s:=zb (id:=1) (ops:=regOps k6_4) (by kernel_rfl) (by kernel_rfl) s
theorem ZdL:O 6 k6_4 0 s=stepV s (some 16) (val (addrAdd (R s 2) 0)) (O 6 k6_4 1):=oR
theorem ZdM:O 6 k6_4 1 s=stepV s (some 17) (xLoad Tryz.prog 3 s.h.get (R s 16)) (O 6 k6_4 2):=oR
theorem ZdR:O 6 k6_4 2 s=stepV s (some 18) (val (addrAdd (R s 2) 1)) (O 6 k6_4 3):=oR
theorem ZdS:O 6 k6_4 3 s=stepV s (some 19) (xLoad Tryz.prog 22 s.h.get (R s 18)) (O 6 k6_4 4):=oR
theorem ZdT:O 6 k6_4 4 s=stepV s (some 20) (val (addrAdd (R s 2) 2)) (O 6 k6_4 5):=oR
theorem ZdU:O 6 k6_4 5 s=stepV s (some 21) (xLoad Tryz.prog 22 s.h.get (R s 20)) (O 6 k6_4 6):=oR
theorem ZdV:O 6 k6_4 6 s=thenC (some 22) s (callS Tryz.prog hs ks 7 [(R s 17),(R s 19),(R s 21)] s.h) (O 6 k6_4 7):=cR
theorem ZdW:O 6 k6_4 7 s=stepV s (some 23) (xUn .not (R s 22)) (O 6 k6_4 8):=oR
theorem ZdX:O 6 k6_4 8 s=stepV s (some 24) (some { v:=(R s 23) }) (O 6 k6_4 9):=oR
theorem ZdY:O 6 k6_4 9 s=if wantB (R s 24) false=true then stepV s (some 25) (val (addrAdd (R s 2) 0)) (O 6 k6_4 10) else O 6 k6_4 10 (skipS s (some 25)):=oI
theorem ZdN:O 6 k6_4 10 s=if wantB (R s 24) false=true then stepV s (some 26) (xLoad Tryz.prog 3 s.h.get (R s 25)) (O 6 k6_4 11) else O 6 k6_4 11 (skipS s (some 26)):=oI
theorem ZdO:O 6 k6_4 11 s=if wantB (R s 24) false=true then stepV s (some 27) (val (binV Tryz.prog .lss 3 false true (R s 26) (.int .i64 (0)))) (O 6 k6_4 12) else O 6 k6_4 12 (skipS s (some 27)):=oI
theorem ZdP:O 6 k6_4 12 s=stepV s (some 28) (xPick (R s 24) (.bool true) (R s 27)) (O 6 k6_4 13):=oR
theorem ZdQ:O 6 k6_4 13 s=some [(.normal,s)]:=zc (by kernel_rfl) s
def k6_6:Code:=codeA k6_5
def k6_7:Code:=codeB k6_5
theorem Zeg:C 6 k6_5 s=condV (R s 28) (C 6 k6_6) (C 6 k6_7) s:=zl (t:=28) (a:=k6_6) (b:=k6_7) (by kernel_rfl) _ _
def k6_8:Code:=codeA k6_6
def k6_9:Code:=codeB k6_6
theorem Zet:C 6 k6_6 s=thenV (C 6 k6_8 s) (C 6 k6_9):=za (a:=k6_8) (b:=k6_9) (by kernel_rfl) _ _
theorem ZfJ:C 6 k6_8 s=O 6 k6_8 0 s:=zb (id:=2) (ops:=regOps k6_8) (by kernel_rfl) (by kernel_rfl) s
theorem ZfG:O 6 k6_8 0 s=thenC (some 29) s (callS Tryz.prog hs ks 8 [] s.h) (O 6 k6_8 1):=cR
theorem ZfH:O 6 k6_8 1 s=stepV s (some 4) (some { v:=(R s 29) }) (O 6 k6_8 2):=oR
theorem ZfI:O 6 k6_8 2 s=some [(.normal,s)]:=zc (by kernel_rfl) s
theorem ZfW:C 6 k6_9 s=some [(.ret,s)]:=Zb (by kernel_rfl) _ _
theorem Zfn:C 6 k6_7 s=some [(.normal,s)]:=zp (by kernel_rfl) _ _
def zZH:Code:=codeA k6_3
def Zau:Code:=codeB k6_3
theorem zZ7:C 6 k6_3 s=thenV (C 6 zZH s) (C 6 Zau):=za (a:=zZH) (b:=Zau) (by kernel_rfl) _ _
theorem ZbY:C 6 zZH s=O 6 zZH 0 s:=zb (id:=3) (ops:=regOps zZH) (by kernel_rfl) (by kernel_rfl) s
theorem ZbW:O 6 zZH 0 s=stepV s (some 5) (some { v:=(.nils) }) (O 6 zZH 1):=oR
theorem ZbX:O 6 zZH 1 s=some [(.normal,s)]:=zc (by kernel_rfl) s
def Zav:Code:=codeA Zau
def Zaw:Code:=codeB Zau
theorem zZY:C 6 Zau s=thenV (C 6 Zav s) (C 6 Zaw):=za (a:=Zav) (b:=Zaw) (by kernel_rfl) _ _
def zx5:Code:=codeA Zav
def Zb9:Code:=codeB Zav
theorem zZZ:C 6 Zav s=thenV (C 6 zx5 s) (C 6 Zb9):=za (a:=zx5) (b:=Zb9) (by kernel_rfl) _ _
theorem Zb8:C 6 zx5 s=O 6 zx5 0 s:=zb (id:=4) (ops:=regOps zx5) (by kernel_rfl) (by kernel_rfl) s
theorem Zb4:O 6 zx5 0 s=stepV s (some 30) (val (addrAdd (R s 2) 0)) (O 6 zx5 1):=oR
theorem Zb5:O 6 zx5 1 s=stepV s (some 31) (xLoad Tryz.prog 3 s.h.get (R s 30)) (O 6 zx5 2):=oR
theorem Zb6:O 6 zx5 2 s=stepV s (some 32) (some { v:=(.int .i64 (0)) }) (O 6 zx5 3):=oR
theorem Zb7:O 6 zx5 3 s=some [(.normal,s)]:=zc (by kernel_rfl) s
def zZ2:Code:=codeA Zb9
theorem zZ1:C 6 Zb9 s=blockV 0 (C 6 zZ2 s):=zu (b:=zZ2) (by kernel_rfl) _ _
def Zax:Code:=codeA zZ2
theorem Zgg:C 6 zZ2 s=thenV (C 6 Zax s) (C 6 zZ2):=ZG (b:=Zax) (by kernel_rfl) _ _
def zZI:Code:=codeA Zax
def Zay:Code:=codeB Zax
theorem Zca:C 6 Zax s=thenV (C 6 zZI s) (C 6 Zay):=za (a:=zZI) (b:=Zay) (by kernel_rfl) _ _
theorem Zcd:C 6 zZI s=O 6 zZI 0 s:=zb (id:=5) (ops:=regOps zZI) (by kernel_rfl) (by kernel_rfl) s
theorem Zcb:O 6 zZI 0 s=stepV s (some 33) (val (binV Tryz.prog .lss 3 false false (R s 32) (R s 31))) (O 6 zZI 1):=oR
theorem Zcc:O 6 zZI 1 s=some [(.normal,s)]:=zc (by kernel_rfl) s
def Zaz:Code:=codeA Zay
def ZaA:Code:=codeB Zay
theorem Zce:C 6 Zay s=thenV (C 6 Zaz s) (C 6 ZaA):=za (a:=Zaz) (b:=ZaA) (by kernel_rfl) _ _
def Zf1:Code:=codeA Zaz
def Zf2:Code:=codeB Zaz
theorem Zcf:C 6 Zaz s=condV (R s 33) (C 6 Zf1) (C 6 Zf2) s:=zl (t:=33) (a:=Zf1) (b:=Zf2) (by kernel_rfl) _ _
theorem Zch:C 6 Zf1 s=some [(.normal,s)]:=zp (by kernel_rfl) _ _
theorem Zci:C 6 Zf2 s=some [(.exit 0,s)]:=Zx (by kernel_rfl) _ _
def Zcj:Code:=codeA ZaA
def zZx:Code:=codeB ZaA
theorem Zcg:C 6 ZaA s=thenV (C 6 Zcj s) (C 6 zZx):=za (a:=Zcj) (b:=zZx) (by kernel_rfl) _ _
def ZaB:Code:=codeA Zcj
theorem Zck:C 6 Zcj s=blockV 1 (C 6 ZaB s):=zu (b:=ZaB) (by kernel_rfl) _ _
def zZy:Code:=codeA ZaB
def zxl:Code:=codeB ZaB
theorem Zcp:C 6 ZaB s=thenV (C 6 zZy s) (C 6 zxl):=za (a:=zZy) (b:=zxl) (by kernel_rfl) _ _
theorem Zct:C 6 zZy s=O 6 zZy 0 s:=zb (id:=6) (ops:=regOps zZy) (by kernel_rfl) (by kernel_rfl) s
theorem Zcq:O 6 zZy 0 s=stepV s (some 34) (some { v:=(R s 32) }) (O 6 zZy 1):=oR
theorem Zcr:O 6 zZy 1 s=stepV s (some 6) (some { v:=(R s 34) }) (O 6 zZy 2):=oR
theorem Zcs:O 6 zZy 2 s=some [(.normal,s)]:=zc (by kernel_rfl) s
theorem ZcF:C 6 zxl s=O 6 zxl 0 s:=zb (id:=7) (ops:=regOps zxl) (by kernel_rfl) (by kernel_rfl) s
theorem Zcu:O 6 zxl 0 s=stepV s (some 35) (some { v:=(R s 5) }) (O 6 zxl 1):=oR
theorem Zcv:O 6 zxl 1 s=stepV s (some 36) (some { v:=(R s 6) }) (O 6 zxl 2):=oR
theorem Zcx:O 6 zxl 2 s=stepV s (some 37) (val (addrAdd (R s 3) 0)) (O 6 zxl 3):=oR
theorem Zcy:O 6 zxl 3 s=stepV s (some 38) (val (indexAddr Tryz.prog 43 (R s 37) (R s 36))) (O 6 zxl 4):=oR
theorem Zcz:O 6 zxl 4 s=stepV s (some 39) (xLoad Tryz.prog 5 s.h.get (R s 38)) (O 6 zxl 5):=oR
theorem ZcA:O 6 zxl 5 s=stepV s (some 40) (xConv (und Tryz.prog 3) (R s 39)) (O 6 zxl 6):=oR
theorem ZcB:O 6 zxl 6 s=stepV s (some 41) (val (binV Tryz.prog .rem 3 false true (R s 40) (.int .i64 (4)))) (O 6 zxl 7):=oR
theorem ZcC:O 6 zxl 7 s=stepV s (some 42) (litS Tryz.prog false 27 1 [(0,(R s 41))] s.h.n) (O 6 zxl 8):=oR
theorem ZcD:O 6 zxl 8 s=stepV s (some 43) (builtinV Tryz.prog false s.h.get s.h.n .append [27,27] [(R s 35),(R s 42)]) (O 6 zxl 9):=oR
theorem ZcE:O 6 zxl 9 s=stepV s (some 5) (some { v:=(R s 43) }) (O 6 zxl 10):=oR
theorem Zcw:O 6 zxl 10 s=some [(.normal,s)]:=zc (by kernel_rfl) s
theorem Zco:C 6 zZx s=O 6 zZx 0 s:=zb (id:=8) (ops:=regOps zZx) (by kernel_rfl) (by kernel_rfl) s
theorem Zcl:O 6 zZx 0 s=stepV s (some 44) (val (binV Tryz.prog .add 3 false true (R s 32) (.int .i64 (1)))) (O 6 zZx 1):=oR
theorem Zcm:O 6 zZx 1 s=stepV s (some 32) (some { v:=(R s 44) }) (O 6 zZx 2):=oR
theorem Zcn:O 6 zZx 2 s=some [(.normal,s)]:=zc (by kernel_rfl) s
def ZaC:Code:=codeA Zaw
def ZaD:Code:=codeB Zaw
theorem zZ0:C 6 Zaw s=thenV (C 6 ZaC s) (C 6 ZaD):=za (a:=ZaC) (b:=ZaD) (by kernel_rfl) _ _
def zxO:Code:=codeA ZaC
def ZcM:Code:=codeB ZaC
theorem zZ4:C 6 ZaC s=thenV (C 6 zxO s) (C 6 ZcM):=za (a:=zxO) (b:=ZcM) (by kernel_rfl) _ _
theorem ZcL:C 6 zxO s=O 6 zxO 0 s:=zb (id:=9) (ops:=regOps zxO) (by kernel_rfl) (by kernel_rfl) s
theorem ZcG:O 6 zxO 0 s=stepV s (some 45) (val (addrAdd (R s 2) 1)) (O 6 zxO 1):=oR
theorem ZcH:O 6 zxO 1 s=stepV s (some 46) (xLoad Tryz.prog 22 s.h.get (R s 45)) (O 6 zxO 2):=oR
theorem ZcI:O 6 zxO 2 s=stepV s (some 47) (builtinV Tryz.prog false s.h.get s.h.n .len [22] [(R s 46)]) (O 6 zxO 3):=oR
theorem ZcJ:O 6 zxO 3 s=stepV s (some 48) (some { v:=(.int .i64 (0)) }) (O 6 zxO 4):=oR
theorem ZcK:O 6 zxO 4 s=some [(.normal,s)]:=zc (by kernel_rfl) s
def zZK:Code:=codeA ZcM
theorem zZ6:C 6 ZcM s=blockV 2 (C 6 zZK s):=zu (b:=zZK) (by kernel_rfl) _ _
def ZaE:Code:=codeA zZK
theorem ZcN:C 6 zZK s=thenV (C 6 ZaE s) (C 6 zZK):=ZG (b:=ZaE) (by kernel_rfl) _ _
def zZL:Code:=codeA ZaE
def ZaF:Code:=codeB ZaE
theorem ZcO:C 6 ZaE s=thenV (C 6 zZL s) (C 6 ZaF):=za (a:=zZL) (b:=ZaF) (by kernel_rfl) _ _
theorem ZcR:C 6 zZL s=O 6 zZL 0 s:=zb (id:=10) (ops:=regOps zZL) (by kernel_rfl) (by kernel_rfl) s
theorem ZcP:O 6 zZL 0 s=stepV s (some 49) (val (binV Tryz.prog .lss 3 false false (R s 48) (R s 47))) (O 6 zZL 1):=oR
theorem ZcQ:O 6 zZL 1 s=some [(.normal,s)]:=zc (by kernel_rfl) s
def ZaG:Code:=codeA ZaF
def ZaH:Code:=codeB ZaF
theorem ZcS:C 6 ZaF s=thenV (C 6 ZaG s) (C 6 ZaH):=za (a:=ZaG) (b:=ZaH) (by kernel_rfl) _ _
def Zf3:Code:=codeA ZaG
def Zf4:Code:=codeB ZaG
theorem ZcT:C 6 ZaG s=condV (R s 49) (C 6 Zf3) (C 6 Zf4) s:=zl (t:=49) (a:=Zf3) (b:=Zf4) (by kernel_rfl) _ _
theorem ZcV:C 6 Zf3 s=some [(.normal,s)]:=zp (by kernel_rfl) _ _
theorem ZcW:C 6 Zf4 s=some [(.exit 2,s)]:=Zx (by kernel_rfl) _ _
def ZaI:Code:=codeA ZaH
def zZz:Code:=codeB ZaH
theorem ZcU:C 6 ZaH s=thenV (C 6 ZaI s) (C 6 zZz):=za (a:=ZaI) (b:=zZz) (by kernel_rfl) _ _
def ZaJ:Code:=codeA ZaI
theorem zZE:C 6 ZaI s=blockV 3 (C 6 ZaJ s):=zu (b:=ZaJ) (by kernel_rfl) _ _
def zxU:Code:=codeA ZaJ
def ZaK:Code:=codeB ZaJ
theorem zZM:C 6 ZaJ s=thenV (C 6 zxU s) (C 6 ZaK):=za (a:=zxU) (b:=ZaK) (by kernel_rfl) _ _
theorem Zc5:C 6 zxU s=O 6 zxU 0 s:=zb (id:=11) (ops:=regOps zxU) (by kernel_rfl) (by kernel_rfl) s
theorem Zc0:O 6 zxU 0 s=stepV s (some 50) (val (indexAddr Tryz.prog 22 (R s 46) (R s 48))) (O 6 zxU 1):=oR
theorem Zc1:O 6 zxU 1 s=stepV s (some 51) (xLoad Tryz.prog 42 s.h.get (R s 50)) (O 6 zxU 2):=oR
theorem Zc2:O 6 zxU 2 s=stepV s (some 8) (some { v:=.ptr s.h.n 0,nw:=[.row 0 [.int .i64 (0),.int .i64 (0)]] }) (O 6 zxU 3):=oR
theorem Zc3:O 6 zxU 3 s=stepV s none (xStore Tryz.prog 42 s.h.get (R s 8) (R s 51)) (O 6 zxU 4):=oR
theorem Zc4:O 6 zxU 4 s=some [(.normal,s)]:=zc (by kernel_rfl) s
def ZaL:Code:=codeA ZaK
def zwZ:Code:=codeB ZaK
theorem zZN:C 6 ZaK s=thenV (C 6 ZaL s) (C 6 zwZ):=za (a:=ZaL) (b:=zwZ) (by kernel_rfl) _ _
def zw7:Code:=codeA ZaL
def ZaM:Code:=codeB ZaL
theorem zZF:C 6 ZaL s=thenV (C 6 zw7 s) (C 6 ZaM):=za (a:=zw7) (b:=ZaM) (by kernel_rfl) _ _
theorem ZdJ:C 6 zw7 s=O 6 zw7 0 s:=zb (id:=12) (ops:=regOps zw7) (by kernel_rfl) (by kernel_rfl) s
theorem Zds:O 6 zw7 0 s=stepV s (some 52) (val (indexAddr Tryz.prog 42 (R s 8) (.int .i64 (0)))) (O 6 zw7 1):=oR
theorem Zdt:O 6 zw7 1 s=stepV s (some 53) (xLoad Tryz.prog 3 s.h.get (R s 52)) (O 6 zw7 2):=oR
theorem ZdB:O 6 zw7 2 s=stepV s (some 54) (val (indexAddr Tryz.prog 42 (R s 8) (.int .i64 (1)))) (O 6 zw7 3):=oR
theorem ZdC:O 6 zw7 3 s=stepV s (some 55) (xLoad Tryz.prog 3 s.h.get (R s 54)) (O 6 zw7 4):=oR
theorem ZdD:O 6 zw7 4 s=stepV s (some 56) (builtinV Tryz.prog false s.h.get s.h.n .min [3,3] [(R s 53),(R s 55)]) (O 6 zw7 5):=oR
theorem ZdE:O 6 zw7 5 s=stepV s (some 57) (val (binV Tryz.prog .lss 3 false true (R s 56) (.int .i64 (0)))) (O 6 zw7 6):=oR
theorem ZdF:O 6 zw7 6 s=stepV s (some 58) (some { v:=(R s 57) }) (O 6 zw7 7):=oR
theorem ZdG:O 6 zw7 7 s=if wantB (R s 58) false=true then stepV s (some 59) (val (indexAddr Tryz.prog 42 (R s 8) (.int .i64 (0)))) (O 6 zw7 8) else O 6 zw7 8 (skipS s (some 59)):=oI
theorem ZdH:O 6 zw7 8 s=if wantB (R s 58) false=true then stepV s (some 60) (xLoad Tryz.prog 3 s.h.get (R s 59)) (O 6 zw7 9) else O 6 zw7 9 (skipS s (some 60)):=oI
theorem ZdI:O 6 zw7 9 s=if wantB (R s 58) false=true then stepV s (some 61) (val (indexAddr Tryz.prog 42 (R s 8) (.int .i64 (1)))) (O 6 zw7 10) else O 6 zw7 10 (skipS s (some 61)):=oI
theorem Zdu:O 6 zw7 10 s=if wantB (R s 58) false=true then stepV s (some 62) (xLoad Tryz.prog 3 s.h.get (R s 61)) (O 6 zw7 11) else O 6 zw7 11 (skipS s (some 62)):=oI
theorem Zdv:O 6 zw7 11 s=if wantB (R s 58) false=true then stepV s (some 63) (builtinV Tryz.prog false s.h.get s.h.n .max [3,3] [(R s 60),(R s 62)]) (O 6 zw7 12) else O 6 zw7 12 (skipS s (some 63)):=oI
theorem Zdw:O 6 zw7 12 s=if wantB (R s 58) false=true then stepV s (some 64) (some { v:=(R s 5) }) (O 6 zw7 13) else O 6 zw7 13 (skipS s (some 64)):=oI
theorem Zdx:O 6 zw7 13 s=if wantB (R s 58) false=true then stepV s (some 65) (builtinV Tryz.prog false s.h.get s.h.n .len [27] [(R s 64)]) (O 6 zw7 14) else O 6 zw7 14 (skipS s (some 65)):=oI
theorem Zdy:O 6 zw7 14 s=if wantB (R s 58) false=true then stepV s (some 66) (val (binV Tryz.prog .geq 3 false false (R s 63) (R s 65))) (O 6 zw7 15) else O 6 zw7 15 (skipS s (some 66)):=oI
theorem Zdz:O 6 zw7 15 s=stepV s (some 67) (xPick (R s 58) (.bool true) (R s 66)) (O 6 zw7 16):=oR
theorem ZdA:O 6 zw7 16 s=some [(.normal,s)]:=zc (by kernel_rfl) s
def ZaN:Code:=codeA ZaM
def Zf5:Code:=codeB ZaM
theorem ZdK:C 6 ZaM s=condV (R s 67) (C 6 ZaN) (C 6 Zf5) s:=zl (t:=67) (a:=ZaN) (b:=Zf5) (by kernel_rfl) _ _
def zZA:Code:=codeA ZaN
def Zf6:Code:=codeB ZaN
theorem Zd0:C 6 ZaN s=thenV (C 6 zZA s) (C 6 Zf6):=za (a:=zZA) (b:=Zf6) (by kernel_rfl) _ _
theorem Zd5:C 6 zZA s=O 6 zZA 0 s:=zb (id:=13) (ops:=regOps zZA) (by kernel_rfl) (by kernel_rfl) s
theorem Zd2:O 6 zZA 0 s=thenC (some 68) s (callS Tryz.prog hs ks 8 [] s.h) (O 6 zZA 1):=cR
theorem Zd3:O 6 zZA 1 s=stepV s (some 4) (some { v:=(R s 68) }) (O 6 zZA 2):=oR
theorem Zd4:O 6 zZA 2 s=some [(.normal,s)]:=zc (by kernel_rfl) s
theorem Zd6:C 6 Zf6 s=some [(.ret,s)]:=Zb (by kernel_rfl) _ _
theorem Zd1:C 6 Zf5 s=some [(.normal,s)]:=zp (by kernel_rfl) _ _
def zki:List Nat:=[0,0,0,4,14,30,62,0,0,256,896,1920,4094,0,16382,32766,65534,131070,262142,524287,1048575]
theorem zZS:C 6 zwZ s=D 6 zwZ zki 0 [] s:=JI (id:=14) (ops:=regOps zwZ) (by kernel_rfl) (by kernel_rfl) (by kernel_rfl) (by kernel_rfl) s
theorem Zc6:D 6 zwZ zki 0 dn s=stepD s (some 69) 0 zki dn (some { v:=(R s 5) }) (D 6 zwZ zki 1):=dR
theorem Zc7:D 6 zwZ zki 1 dn s=stepD s (some 70) 1 zki dn (some { v:=(R s 5) }) (D 6 zwZ zki 2):=dR
theorem Zdi:D 6 zwZ zki 2 dn s=stepD s (some 71) 2 zki dn (val (indexAddr Tryz.prog 42 (R s 8) (.int .i64 (0)))) (D 6 zwZ zki 3):=dR
theorem Zdl:D 6 zwZ zki 3 dn s=stepD s (some 72) 3 zki dn (xLoad Tryz.prog 3 s.h.get (R s 71)) (D 6 zwZ zki 4):=dR
theorem Zdm:D 6 zwZ zki 4 dn s=stepD s (some 73) 4 zki dn (val (indexAddr Tryz.prog 27 (R s 70) (R s 72))) (D 6 zwZ zki 5):=dR
theorem Zdn:D 6 zwZ zki 5 dn s=stepD s (some 74) 5 zki dn (xLoad Tryz.prog 3 s.h.get (R s 73)) (D 6 zwZ zki 6):=dR
theorem Zdo:D 6 zwZ zki 6 dn s=stepD s (some 75) 6 zki dn (val (binV Tryz.prog .mul 3 true false (.int .i64 (4)) (R s 74))) (D 6 zwZ zki 7):=dR
theorem Zdp:D 6 zwZ zki 7 dn s=stepD s (some 76) 7 zki dn (some { v:=(R s 5) }) (D 6 zwZ zki 8):=dR
theorem Zdq:D 6 zwZ zki 8 dn s=stepD s (some 77) 8 zki dn (val (indexAddr Tryz.prog 42 (R s 8) (.int .i64 (1)))) (D 6 zwZ zki 9):=dR
theorem Zdr:D 6 zwZ zki 9 dn s=stepD s (some 78) 9 zki dn (xLoad Tryz.prog 3 s.h.get (R s 77)) (D 6 zwZ zki 10):=dR
theorem Zc8:D 6 zwZ zki 10 dn s=stepD s (some 79) 10 zki dn (val (indexAddr Tryz.prog 27 (R s 76) (R s 78))) (D 6 zwZ zki 11):=dR
theorem Zc9:D 6 zwZ zki 11 dn s=stepD s (some 80) 11 zki dn (xLoad Tryz.prog 3 s.h.get (R s 79)) (D 6 zwZ zki 12):=dR
theorem Zda:D 6 zwZ zki 12 dn s=stepD s (some 81) 12 zki dn (val (binV Tryz.prog .add 3 false false (R s 75) (R s 80))) (D 6 zwZ zki 13):=dR
theorem Zdb:D 6 zwZ zki 13 dn s=stepD s (some 82) 13 zki dn (val (addrAdd (R s 3) 16)) (D 6 zwZ zki 14):=dR
theorem Zdc:D 6 zwZ zki 14 dn s=stepD s (some 83) 14 zki dn (val (indexAddr Tryz.prog 43 (R s 82) (R s 81))) (D 6 zwZ zki 15):=dR
theorem Zdd:D 6 zwZ zki 15 dn s=stepD s (some 84) 15 zki dn (xLoad Tryz.prog 5 s.h.get (R s 83)) (D 6 zwZ zki 16):=dR
theorem Zde:D 6 zwZ zki 16 dn s=stepD s (some 85) 16 zki dn (xConv (und Tryz.prog 3) (R s 84)) (D 6 zwZ zki 17):=dR
theorem Zdf:D 6 zwZ zki 17 dn s=stepD s (some 86) 17 zki dn (val (binV Tryz.prog .rem 3 false true (R s 85) (.int .i64 (4)))) (D 6 zwZ zki 18):=dR
theorem Zdg:D 6 zwZ zki 18 dn s=stepD s (some 87) 18 zki dn (litS Tryz.prog false 27 1 [(0,(R s 86))] s.h.n) (D 6 zwZ zki 19):=dR
theorem Zdh:D 6 zwZ zki 19 dn s=stepD s (some 88) 19 zki dn (builtinV Tryz.prog false s.h.get s.h.n .append [27,27] [(R s 69),(R s 87)]) (D 6 zwZ zki 20):=dR
theorem Zdj:D 6 zwZ zki 20 dn s=stepD s (some 5) 20 zki dn (some { v:=(R s 88) }) (D 6 zwZ zki 21):=dR
theorem Zdk:D 6 zwZ zki 21 dn s=some [(.normal,s)]:=JJ (by kernel_rfl) dn s
theorem zZR:C 6 zZz s=O 6 zZz 0 s:=zb (id:=15) (ops:=regOps zZz) (by kernel_rfl) (by kernel_rfl) s
theorem ZcX:O 6 zZz 0 s=stepV s (some 89) (val (binV Tryz.prog .add 3 false true (R s 48) (.int .i64 (1)))) (O 6 zZz 1):=oR
theorem ZcY:O 6 zZz 1 s=stepV s (some 48) (some { v:=(R s 89) }) (O 6 zZz 2):=oR
theorem ZcZ:O 6 zZz 2 s=some [(.normal,s)]:=zc (by kernel_rfl) s
def zZO:Code:=codeA ZaD
def ZaO:Code:=codeB ZaD
theorem zZ5:C 6 ZaD s=thenV (C 6 zZO s) (C 6 ZaO):=za (a:=zZO) (b:=ZaO) (by kernel_rfl) _ _
theorem zZ8:C 6 zZO s=O 6 zZO 0 s:=zb (id:=16) (ops:=regOps zZO) (by kernel_rfl) (by kernel_rfl) s
theorem Zd7:O 6 zZO 0 s=stepV s (some 9) (some { v:=(.nils) }) (O 6 zZO 1):=oR
theorem Zd8:O 6 zZO 1 s=some [(.normal,s)]:=zc (by kernel_rfl) s
def ZaP:Code:=codeA ZaO
def Zab:Code:=codeB ZaO
theorem zZ9:C 6 ZaO s=thenV (C 6 ZaP s) (C 6 Zab):=za (a:=ZaP) (b:=Zab) (by kernel_rfl) _ _
def zxV:Code:=codeA ZaP
def Zef:Code:=codeB ZaP
theorem Zaa:C 6 ZaP s=thenV (C 6 zxV s) (C 6 Zef):=za (a:=zxV) (b:=Zef) (by kernel_rfl) _ _
theorem Zee:C 6 zxV s=O 6 zxV 0 s:=zb (id:=17) (ops:=regOps zxV) (by kernel_rfl) (by kernel_rfl) s
theorem Zd9:O 6 zxV 0 s=stepV s (some 90) (val (addrAdd (R s 2) 2)) (O 6 zxV 1):=oR
theorem Zea:O 6 zxV 1 s=stepV s (some 91) (xLoad Tryz.prog 22 s.h.get (R s 90)) (O 6 zxV 2):=oR
theorem Zeb:O 6 zxV 2 s=stepV s (some 92) (builtinV Tryz.prog false s.h.get s.h.n .len [22] [(R s 91)]) (O 6 zxV 3):=oR
theorem Zec:O 6 zxV 3 s=stepV s (some 93) (some { v:=(.int .i64 (0)) }) (O 6 zxV 4):=oR
theorem Zed:O 6 zxV 4 s=some [(.normal,s)]:=zc (by kernel_rfl) s
def zZT:Code:=codeA Zef
theorem Zad:C 6 Zef s=blockV 4 (C 6 zZT s):=zu (b:=zZT) (by kernel_rfl) _ _
def ZaQ:Code:=codeA zZT
theorem Zf7:C 6 zZT s=thenV (C 6 ZaQ s) (C 6 zZT):=ZG (b:=ZaQ) (by kernel_rfl) _ _
def zZP:Code:=codeA ZaQ
def ZaR:Code:=codeB ZaQ
theorem Zeh:C 6 ZaQ s=thenV (C 6 zZP s) (C 6 ZaR):=za (a:=zZP) (b:=ZaR) (by kernel_rfl) _ _
theorem Zek:C 6 zZP s=O 6 zZP 0 s:=zb (id:=18) (ops:=regOps zZP) (by kernel_rfl) (by kernel_rfl) s
theorem Zei:O 6 zZP 0 s=stepV s (some 94) (val (binV Tryz.prog .lss 3 false false (R s 93) (R s 92))) (O 6 zZP 1):=oR
theorem Zej:O 6 zZP 1 s=some [(.normal,s)]:=zc (by kernel_rfl) s
def ZaS:Code:=codeA ZaR
def ZaT:Code:=codeB ZaR
theorem Zel:C 6 ZaR s=thenV (C 6 ZaS s) (C 6 ZaT):=za (a:=ZaS) (b:=ZaT) (by kernel_rfl) _ _
def Zf8:Code:=codeA ZaS
def Zf9:Code:=codeB ZaS
theorem Zem:C 6 ZaS s=condV (R s 94) (C 6 Zf8) (C 6 Zf9) s:=zl (t:=94) (a:=Zf8) (b:=Zf9) (by kernel_rfl) _ _
theorem Zeo:C 6 Zf8 s=some [(.normal,s)]:=zp (by kernel_rfl) _ _
theorem Zep:C 6 Zf9 s=some [(.exit 4,s)]:=Zx (by kernel_rfl) _ _
def ZaU:Code:=codeA ZaT
def zZB:Code:=codeB ZaT
theorem Zen:C 6 ZaT s=thenV (C 6 ZaU s) (C 6 zZB):=za (a:=ZaU) (b:=zZB) (by kernel_rfl) _ _
def ZaV:Code:=codeA ZaU
theorem zZU:C 6 ZaU s=blockV 5 (C 6 ZaV s):=zu (b:=ZaV) (by kernel_rfl) _ _
def zxW:Code:=codeA ZaV
def ZaW:Code:=codeB ZaV
theorem Zae:C 6 ZaV s=thenV (C 6 zxW s) (C 6 ZaW):=za (a:=zxW) (b:=ZaW) (by kernel_rfl) _ _
theorem Zez:C 6 zxW s=O 6 zxW 0 s:=zb (id:=19) (ops:=regOps zxW) (by kernel_rfl) (by kernel_rfl) s
theorem Zeu:O 6 zxW 0 s=stepV s (some 95) (val (indexAddr Tryz.prog 22 (R s 91) (R s 93))) (O 6 zxW 1):=oR
theorem Zev:O 6 zxW 1 s=stepV s (some 96) (xLoad Tryz.prog 42 s.h.get (R s 95)) (O 6 zxW 2):=oR
theorem Zew:O 6 zxW 2 s=stepV s (some 11) (some { v:=.ptr s.h.n 0,nw:=[.row 0 [.int .i64 (0),.int .i64 (0)]] }) (O 6 zxW 3):=oR
theorem Zex:O 6 zxW 3 s=stepV s none (xStore Tryz.prog 42 s.h.get (R s 11) (R s 96)) (O 6 zxW 4):=oR
theorem Zey:O 6 zxW 4 s=some [(.normal,s)]:=zc (by kernel_rfl) s
def zbU:Code:=codeA ZaW
def ZaX:Code:=codeB ZaW
theorem Zaf:C 6 ZaW s=thenV (C 6 zbU s) (C 6 ZaX):=za (a:=zbU) (b:=ZaX) (by kernel_rfl) _ _
def zP:List Nat:=[0,1,0,4,15,31,63,127,255,127,639,2047,127,4223,16383,32767,65535,131071,131071,393215,1048575,2097151,131071,131071,8519679,29491199,63045631,134217727,268435455]
theorem zZG:C 6 zbU s=D 6 zbU zP 0 [] s:=JI (id:=20) (ops:=regOps zbU) (by kernel_rfl) (by kernel_rfl) (by kernel_rfl) (by kernel_rfl) s
theorem ZeA:D 6 zbU zP 0 dn s=stepD s (some 97) 0 zP dn (val (indexAddr Tryz.prog 42 (R s 11) (.int .i64 (0)))) (D 6 zbU zP 1):=dR
theorem ZeB:D 6 zbU zP 1 dn s=stepD s (some 98) 1 zP dn (xLoad Tryz.prog 3 s.h.get (R s 97)) (D 6 zbU zP 2):=dR
theorem ZeM:D 6 zbU zP 2 dn s=stepD s (some 99) 2 zP dn (val (indexAddr Tryz.prog 42 (R s 11) (.int .i64 (1)))) (D 6 zbU zP 3):=dR
theorem ZeX:D 6 zbU zP 3 dn s=stepD s (some 100) 3 zP dn (xLoad Tryz.prog 3 s.h.get (R s 99)) (D 6 zbU zP 4):=dR
theorem ZeY:D 6 zbU zP 4 dn s=stepD s (some 101) 4 zP dn (builtinV Tryz.prog false s.h.get s.h.n .min [3,3] [(R s 98),(R s 100)]) (D 6 zbU zP 5):=dR
theorem ZeZ:D 6 zbU zP 5 dn s=stepD s (some 102) 5 zP dn (val (binV Tryz.prog .geq 3 false true (R s 101) (.int .i64 (0)))) (D 6 zbU zP 6):=dR
theorem Ze0:D 6 zbU zP 6 dn s=stepD s (some 103) 6 zP dn (some { v:=(R s 102) }) (D 6 zbU zP 7):=dR
theorem Ze1:D 6 zbU zP 7 dn s=if wantB (R s 103) true=true then stepD s (some 104) 7 zP dn (val (indexAddr Tryz.prog 42 (R s 11) (.int .i64 (0)))) (D 6 zbU zP 8) else D 6 zbU zP 8 dn (skipS s (some 104)):=dI
theorem Ze2:D 6 zbU zP 8 dn s=if wantB (R s 103) true=true then stepD s (some 105) 8 zP dn (xLoad Tryz.prog 3 s.h.get (R s 104)) (D 6 zbU zP 9) else D 6 zbU zP 9 dn (skipS s (some 105)):=dI
theorem Ze3:D 6 zbU zP 9 dn s=if wantB (R s 103) true=true then stepD s (some 106) 9 zP dn (val (indexAddr Tryz.prog 42 (R s 11) (.int .i64 (1)))) (D 6 zbU zP 10) else D 6 zbU zP 10 dn (skipS s (some 106)):=dI
theorem ZeC:D 6 zbU zP 10 dn s=if wantB (R s 103) true=true then stepD s (some 107) 10 zP dn (xLoad Tryz.prog 3 s.h.get (R s 106)) (D 6 zbU zP 11) else D 6 zbU zP 11 dn (skipS s (some 107)):=dI
theorem ZeD:D 6 zbU zP 11 dn s=if wantB (R s 103) true=true then stepD s (some 108) 11 zP dn (builtinV Tryz.prog false s.h.get s.h.n .max [3,3] [(R s 105),(R s 107)]) (D 6 zbU zP 12) else D 6 zbU zP 12 dn (skipS s (some 108)):=dI
theorem ZeE:D 6 zbU zP 12 dn s=if wantB (R s 103) true=true then stepD s (some 109) 12 zP dn (some { v:=(R s 5) }) (D 6 zbU zP 13) else D 6 zbU zP 13 dn (skipS s (some 109)):=dI
theorem ZeF:D 6 zbU zP 13 dn s=if wantB (R s 103) true=true then stepD s (some 110) 13 zP dn (builtinV Tryz.prog false s.h.get s.h.n .len [27] [(R s 109)]) (D 6 zbU zP 14) else D 6 zbU zP 14 dn (skipS s (some 110)):=dI
theorem ZeG:D 6 zbU zP 14 dn s=if wantB (R s 103) true=true then stepD s (some 111) 14 zP dn (val (binV Tryz.prog .lss 3 false false (R s 108) (R s 110))) (D 6 zbU zP 15) else D 6 zbU zP 15 dn (skipS s (some 111)):=dI
theorem ZeH:D 6 zbU zP 15 dn s=stepD s (some 112) 15 zP dn (xPick (R s 103) (R s 111) (.bool false)) (D 6 zbU zP 16):=dR
theorem ZeI:D 6 zbU zP 16 dn s=stepD s (some 113) 16 zP dn (some { v:=(R s 112) }) (D 6 zbU zP 17):=dR
theorem ZeJ:D 6 zbU zP 17 dn s=if wantB (R s 113) true=true then stepD s (some 114) 17 zP dn (some { v:=(R s 5) }) (D 6 zbU zP 18) else D 6 zbU zP 18 dn (skipS s (some 114)):=dI
theorem ZeK:D 6 zbU zP 18 dn s=if wantB (R s 113) true=true then stepD s (some 115) 18 zP dn (val (indexAddr Tryz.prog 42 (R s 11) (.int .i64 (0)))) (D 6 zbU zP 19) else D 6 zbU zP 19 dn (skipS s (some 115)):=dI
theorem ZeL:D 6 zbU zP 19 dn s=if wantB (R s 113) true=true then stepD s (some 116) 19 zP dn (xLoad Tryz.prog 3 s.h.get (R s 115)) (D 6 zbU zP 20) else D 6 zbU zP 20 dn (skipS s (some 116)):=dI
theorem ZeN:D 6 zbU zP 20 dn s=if wantB (R s 113) true=true then stepD s (some 117) 20 zP dn (val (indexAddr Tryz.prog 27 (R s 114) (R s 116))) (D 6 zbU zP 21) else D 6 zbU zP 21 dn (skipS s (some 117)):=dI
theorem ZeO:D 6 zbU zP 21 dn s=if wantB (R s 113) true=true then stepD s (some 118) 21 zP dn (xLoad Tryz.prog 3 s.h.get (R s 117)) (D 6 zbU zP 22) else D 6 zbU zP 22 dn (skipS s (some 118)):=dI
theorem ZeP:D 6 zbU zP 22 dn s=if wantB (R s 113) true=true then stepD s (some 119) 22 zP dn (some { v:=(R s 5) }) (D 6 zbU zP 23) else D 6 zbU zP 23 dn (skipS s (some 119)):=dI
theorem ZeQ:D 6 zbU zP 23 dn s=if wantB (R s 113) true=true then stepD s (some 120) 23 zP dn (val (indexAddr Tryz.prog 42 (R s 11) (.int .i64 (1)))) (D 6 zbU zP 24) else D 6 zbU zP 24 dn (skipS s (some 120)):=dI
theorem ZeR:D 6 zbU zP 24 dn s=if wantB (R s 113) true=true then stepD s (some 121) 24 zP dn (xLoad Tryz.prog 3 s.h.get (R s 120)) (D 6 zbU zP 25) else D 6 zbU zP 25 dn (skipS s (some 121)):=dI
theorem ZeS:D 6 zbU zP 25 dn s=if wantB (R s 113) true=true then stepD s (some 122) 25 zP dn (val (indexAddr Tryz.prog 27 (R s 119) (R s 121))) (D 6 zbU zP 26) else D 6 zbU zP 26 dn (skipS s (some 122)):=dI
theorem ZeT:D 6 zbU zP 26 dn s=if wantB (R s 113) true=true then stepD s (some 123) 26 zP dn (xLoad Tryz.prog 3 s.h.get (R s 122)) (D 6 zbU zP 27) else D 6 zbU zP 27 dn (skipS s (some 123)):=dI
theorem ZeU:D 6 zbU zP 27 dn s=if wantB (R s 113) true=true then stepD s (some 124) 27 zP dn (val (binV Tryz.prog .eql 3 false false (R s 118) (R s 123))) (D 6 zbU zP 28) else D 6 zbU zP 28 dn (skipS s (some 124)):=dI
theorem ZeV:D 6 zbU zP 28 dn s=stepD s (some 125) 28 zP dn (xPick (R s 113) (R s 124) (.bool false)) (D 6 zbU zP 29):=dR
theorem ZeW:D 6 zbU zP 29 dn s=some [(.normal,s)]:=JJ (by kernel_rfl) dn s
def zxD:Code:=codeA ZaX
def Zga:Code:=codeB ZaX
theorem Zag:C 6 ZaX s=condV (R s 125) (C 6 zxD) (C 6 Zga) s:=zl (t:=125) (a:=zxD) (b:=Zga) (by kernel_rfl) _ _
theorem zZW:C 6 zxD s=O 6 zxD 0 s:=zb (id:=21) (ops:=regOps zxD) (by kernel_rfl) (by kernel_rfl) s
theorem Ze4:O 6 zxD 0 s=stepV s (some 126) (some { v:=(R s 9) }) (O 6 zxD 1):=oR
theorem Ze5:O 6 zxD 1 s=stepV s (some 127) (xLoad Tryz.prog 42 s.h.get (R s 11)) (O 6 zxD 2):=oR
theorem Ze6:O 6 zxD 2 s=stepV s (some 128) (litS Tryz.prog false 22 1 [(0,(R s 127))] s.h.n) (O 6 zxD 3):=oR
theorem Ze7:O 6 zxD 3 s=stepV s (some 129) (builtinV Tryz.prog false s.h.get s.h.n .append [22,22] [(R s 126),(R s 128)]) (O 6 zxD 4):=oR
theorem Ze8:O 6 zxD 4 s=stepV s (some 9) (some { v:=(R s 129) }) (O 6 zxD 5):=oR
theorem Ze9:O 6 zxD 5 s=some [(.normal,s)]:=zc (by kernel_rfl) s
theorem Zfa:C 6 Zga s=some [(.normal,s)]:=zp (by kernel_rfl) _ _
theorem zZV:C 6 zZB s=O 6 zZB 0 s:=zb (id:=22) (ops:=regOps zZB) (by kernel_rfl) (by kernel_rfl) s
theorem Zeq:O 6 zZB 0 s=stepV s (some 130) (val (binV Tryz.prog .add 3 false true (R s 93) (.int .i64 (1)))) (O 6 zZB 1):=oR
theorem Zer:O 6 zZB 1 s=stepV s (some 93) (some { v:=(R s 130) }) (O 6 zZB 2):=oR
theorem Zes:O 6 zZB 2 s=some [(.normal,s)]:=zc (by kernel_rfl) s
def zxk:Code:=codeA Zab
def ZaY:Code:=codeB Zab
theorem Zac:C 6 Zab s=thenV (C 6 zxk s) (C 6 ZaY):=za (a:=zxk) (b:=ZaY) (by kernel_rfl) _ _
theorem Zah:C 6 zxk s=O 6 zxk 0 s:=zb (id:=23) (ops:=regOps zxk) (by kernel_rfl) (by kernel_rfl) s
theorem Zfb:O 6 zxk 0 s=stepV s (some 132) (val (addrAdd (R s 2) 0)) (O 6 zxk 1):=oR
theorem Zfc:O 6 zxk 1 s=stepV s (some 133) (xLoad Tryz.prog 3 s.h.get (R s 132)) (O 6 zxk 2):=oR
theorem Zff:O 6 zxk 2 s=stepV s (some 134) (val (addrAdd (R s 2) 1)) (O 6 zxk 3):=oR
theorem Zfg:O 6 zxk 3 s=stepV s (some 135) (xLoad Tryz.prog 22 s.h.get (R s 134)) (O 6 zxk 4):=oR
theorem Zfh:O 6 zxk 4 s=stepV s (some 136) (some { v:=(R s 9) }) (O 6 zxk 5):=oR
theorem Zfi:O 6 zxk 5 s=thenC (some 137) s (callS Tryz.prog hs ks 9 [(R s 133),(R s 135),(R s 136)] s.h) (O 6 zxk 6):=cR
theorem Zfj:O 6 zxk 6 s=stepV s (some 131) (some { v:=(R s 137) }) (O 6 zxk 7):=oR
theorem Zfk:O 6 zxk 7 s=stepV s (some 138) (xExtract (R s 131) 0) (O 6 zxk 8):=oR
theorem Zfl:O 6 zxk 8 s=stepV s (some 139) (xExtract (R s 131) 1) (O 6 zxk 9):=oR
theorem Zfm:O 6 zxk 9 s=stepV s (some 12) (some { v:=(R s 138) }) (O 6 zxk 10):=oR
theorem Zfd:O 6 zxk 10 s=stepV s (some 13) (some { v:=(R s 139) }) (O 6 zxk 11):=oR
theorem Zfe:O 6 zxk 11 s=some [(.normal,s)]:=zc (by kernel_rfl) s
def ZaZ:Code:=codeA ZaY
def Za0:Code:=codeB ZaY
theorem Zai:C 6 ZaY s=thenV (C 6 ZaZ s) (C 6 Za0):=za (a:=ZaZ) (b:=Za0) (by kernel_rfl) _ _
def zxd:Code:=codeA ZaZ
def Za1:Code:=codeB ZaZ
theorem Zaj:C 6 ZaZ s=thenV (C 6 zxd s) (C 6 Za1):=za (a:=zxd) (b:=Za1) (by kernel_rfl) _ _
theorem Zfy:C 6 zxd s=O 6 zxd 0 s:=zb (id:=24) (ops:=regOps zxd) (by kernel_rfl) (by kernel_rfl) s
theorem Zfo:O 6 zxd 0 s=stepV s (some 140) (some { v:=(R s 13) }) (O 6 zxd 1):=oR
theorem Zfp:O 6 zxd 1 s=stepV s (some 141) (val (binV Tryz.prog .neq 28 false true (R s 140) (.int .i64 (0)))) (O 6 zxd 2):=oR
theorem Zfq:O 6 zxd 2 s=stepV s (some 142) (some { v:=(R s 141) }) (O 6 zxd 3):=oR
theorem Zfr:O 6 zxd 3 s=if wantB (R s 142) false=true then stepV s (some 143) (some { v:=(R s 12) }) (O 6 zxd 4) else O 6 zxd 4 (skipS s (some 143)):=oI
theorem Zfs:O 6 zxd 4 s=if wantB (R s 142) false=true then stepV s (some 144) (builtinV Tryz.prog false s.h.get s.h.n .len [27] [(R s 143)]) (O 6 zxd 5) else O 6 zxd 5 (skipS s (some 144)):=oI
theorem Zft:O 6 zxd 5 s=if wantB (R s 142) false=true then stepV s (some 145) (some { v:=(R s 5) }) (O 6 zxd 6) else O 6 zxd 6 (skipS s (some 145)):=oI
theorem Zfu:O 6 zxd 6 s=if wantB (R s 142) false=true then stepV s (some 146) (builtinV Tryz.prog false s.h.get s.h.n .len [27] [(R s 145)]) (O 6 zxd 7) else O 6 zxd 7 (skipS s (some 146)):=oI
theorem Zfv:O 6 zxd 7 s=if wantB (R s 142) false=true then stepV s (some 147) (val (binV Tryz.prog .neq 3 false false (R s 144) (R s 146))) (O 6 zxd 8) else O 6 zxd 8 (skipS s (some 147)):=oI
theorem Zfw:O 6 zxd 8 s=stepV s (some 148) (xPick (R s 142) (.bool true) (R s 147)) (O 6 zxd 9):=oR
theorem Zfx:O 6 zxd 9 s=some [(.normal,s)]:=zc (by kernel_rfl) s
def Za2:Code:=codeA Za1
def Zgb:Code:=codeB Za1
theorem Zfz:C 6 Za1 s=condV (R s 148) (C 6 Za2) (C 6 Zgb) s:=zl (t:=148) (a:=Za2) (b:=Zgb) (by kernel_rfl) _ _
theorem ZfA:C 6 Zgb s=some [(.normal,s)]:=zp (by kernel_rfl) _ _
def Za3:Code:=codeA Za0
def Za4:Code:=codeB Za0
theorem Zak:C 6 Za0 s=thenV (C 6 Za3 s) (C 6 Za4):=za (a:=Za3) (b:=Za4) (by kernel_rfl) _ _
def zx8:Code:=codeA Za3
def ZfK:Code:=codeB Za3
theorem Zal:C 6 Za3 s=thenV (C 6 zx8 s) (C 6 ZfK):=za (a:=zx8) (b:=ZfK) (by kernel_rfl) _ _
theorem ZfF:C 6 zx8 s=O 6 zx8 0 s:=zb (id:=26) (ops:=regOps zx8) (by kernel_rfl) (by kernel_rfl) s
theorem ZfB:O 6 zx8 0 s=stepV s (some 149) (some { v:=(R s 12) }) (O 6 zx8 1):=oR
theorem ZfC:O 6 zx8 1 s=stepV s (some 150) (builtinV Tryz.prog false s.h.get s.h.n .len [27] [(R s 149)]) (O 6 zx8 2):=oR
theorem ZfD:O 6 zx8 2 s=stepV s (some 151) (some { v:=(.int .i64 (0)) }) (O 6 zx8 3):=oR
theorem ZfE:O 6 zx8 3 s=some [(.normal,s)]:=zc (by kernel_rfl) s
def Zan:Code:=codeA ZfK
theorem zZX:C 6 ZfK s=blockV 6 (C 6 Zan s):=zu (b:=Zan) (by kernel_rfl) _ _
def Za5:Code:=codeA Zan
theorem Zgc:C 6 Zan s=thenV (C 6 Za5 s) (C 6 Zan):=ZG (b:=Za5) (by kernel_rfl) _ _
def zZQ:Code:=codeA Za5
def Za6:Code:=codeB Za5
theorem ZfL:C 6 Za5 s=thenV (C 6 zZQ s) (C 6 Za6):=za (a:=zZQ) (b:=Za6) (by kernel_rfl) _ _
theorem ZfO:C 6 zZQ s=O 6 zZQ 0 s:=zb (id:=27) (ops:=regOps zZQ) (by kernel_rfl) (by kernel_rfl) s
theorem ZfM:O 6 zZQ 0 s=stepV s (some 152) (val (binV Tryz.prog .lss 3 false false (R s 151) (R s 150))) (O 6 zZQ 1):=oR
theorem ZfN:O 6 zZQ 1 s=some [(.normal,s)]:=zc (by kernel_rfl) s
def Za7:Code:=codeA Za6
def Za8:Code:=codeB Za6
theorem ZfP:C 6 Za6 s=thenV (C 6 Za7 s) (C 6 Za8):=za (a:=Za7) (b:=Za8) (by kernel_rfl) _ _
def Zgd:Code:=codeA Za7
def Zge:Code:=codeB Za7
theorem ZfQ:C 6 Za7 s=condV (R s 152) (C 6 Zgd) (C 6 Zge) s:=zl (t:=152) (a:=Zgd) (b:=Zge) (by kernel_rfl) _ _
theorem ZfS:C 6 Zgd s=some [(.normal,s)]:=zp (by kernel_rfl) _ _
theorem ZfT:C 6 Zge s=some [(.exit 6,s)]:=Zx (by kernel_rfl) _ _
def ZfU:Code:=codeA Za8
def zZv:Code:=codeB Za8
theorem ZfR:C 6 Za8 s=thenV (C 6 ZfU s) (C 6 zZv):=za (a:=ZfU) (b:=zZv) (by kernel_rfl) _ _
def Zaq:Code:=codeA ZfU
theorem ZfV:C 6 ZfU s=blockV 7 (C 6 Zaq s):=zu (b:=Zaq) (by kernel_rfl) _ _
def zxo:Code:=codeA Zaq
def Zar:Code:=codeB Zaq
theorem Zbq:C 6 Zaq s=thenV (C 6 zxo s) (C 6 Zar):=za (a:=zxo) (b:=Zar) (by kernel_rfl) _ _
theorem Zbx:C 6 zxo s=O 6 zxo 0 s:=zb (id:=28) (ops:=regOps zxo) (by kernel_rfl) (by kernel_rfl) s
theorem Zbr:O 6 zxo 0 s=stepV s (some 153) (some { v:=(R s 151) }) (O 6 zxo 1):=oR
theorem Zbs:O 6 zxo 1 s=stepV s (some 154) (val (indexAddr Tryz.prog 27 (R s 149) (R s 151))) (O 6 zxo 2):=oR
theorem Zbt:O 6 zxo 2 s=stepV s (some 155) (xLoad Tryz.prog 3 s.h.get (R s 154)) (O 6 zxo 3):=oR
theorem Zbu:O 6 zxo 3 s=stepV s (some 14) (some { v:=(R s 153) }) (O 6 zxo 4):=oR
theorem Zbv:O 6 zxo 4 s=stepV s (some 15) (some { v:=(R s 155) }) (O 6 zxo 5):=oR
theorem Zbw:O 6 zxo 5 s=some [(.normal,s)]:=zc (by kernel_rfl) s
def zvM:Code:=codeA Zar
def Zas:Code:=codeB Zar
theorem Zby:C 6 Zar s=thenV (C 6 zvM s) (C 6 Zas):=za (a:=zvM) (b:=Zas) (by kernel_rfl) _ _
def zbV:List Nat:=[0,1,3,7,7,23,63,127,255,511,511,2047,4095,511,511,25087,57855,131071,262143]
theorem ZbT:C 6 zvM s=D 6 zvM zbV 0 [] s:=JI (id:=29) (ops:=regOps zvM) (by kernel_rfl) (by kernel_rfl) (by kernel_rfl) (by kernel_rfl) s
theorem Zbz:D 6 zvM zbV 0 dn s=stepD s (some 156) 0 zbV dn (some { v:=(R s 15) }) (D 6 zvM zbV 1):=dR
theorem ZbA:D 6 zvM zbV 1 dn s=stepD s (some 157) 1 zbV dn (val (binV Tryz.prog .lss 3 false true (R s 156) (.int .i64 (0)))) (D 6 zvM zbV 2):=dR
theorem ZbL:D 6 zvM zbV 2 dn s=stepD s (some 158) 2 zbV dn (some { v:=(R s 157) }) (D 6 zvM zbV 3):=dR
theorem ZbM:D 6 zvM zbV 3 dn s=if wantB (R s 158) false=true then stepD s (some 159) 3 zbV dn (some { v:=(R s 15) }) (D 6 zvM zbV 4) else D 6 zvM zbV 4 dn (skipS s (some 159)):=dI
theorem ZbN:D 6 zvM zbV 4 dn s=if wantB (R s 158) false=true then stepD s (some 160) 4 zbV dn (some { v:=(R s 5) }) (D 6 zvM zbV 5) else D 6 zvM zbV 5 dn (skipS s (some 160)):=dI
theorem ZbO:D 6 zvM zbV 5 dn s=if wantB (R s 158) false=true then stepD s (some 161) 5 zbV dn (builtinV Tryz.prog false s.h.get s.h.n .len [27] [(R s 160)]) (D 6 zvM zbV 6) else D 6 zvM zbV 6 dn (skipS s (some 161)):=dI
theorem ZbP:D 6 zvM zbV 6 dn s=if wantB (R s 158) false=true then stepD s (some 162) 6 zbV dn (val (binV Tryz.prog .geq 3 false false (R s 159) (R s 161))) (D 6 zvM zbV 7) else D 6 zvM zbV 7 dn (skipS s (some 162)):=dI
theorem ZbQ:D 6 zvM zbV 7 dn s=stepD s (some 163) 7 zbV dn (xPick (R s 158) (.bool true) (R s 162)) (D 6 zvM zbV 8):=dR
theorem ZbR:D 6 zvM zbV 8 dn s=stepD s (some 164) 8 zbV dn (some { v:=(R s 163) }) (D 6 zvM zbV 9):=dR
theorem ZbS:D 6 zvM zbV 9 dn s=if wantB (R s 164) false=true then stepD s (some 165) 9 zbV dn (some { v:=(R s 5) }) (D 6 zvM zbV 10) else D 6 zvM zbV 10 dn (skipS s (some 165)):=dI
theorem ZbB:D 6 zvM zbV 10 dn s=if wantB (R s 164) false=true then stepD s (some 166) 10 zbV dn (some { v:=(R s 15) }) (D 6 zvM zbV 11) else D 6 zvM zbV 11 dn (skipS s (some 166)):=dI
theorem ZbC:D 6 zvM zbV 11 dn s=if wantB (R s 164) false=true then stepD s (some 167) 11 zbV dn (val (indexAddr Tryz.prog 27 (R s 165) (R s 166))) (D 6 zvM zbV 12) else D 6 zvM zbV 12 dn (skipS s (some 167)):=dI
theorem ZbD:D 6 zvM zbV 12 dn s=if wantB (R s 164) false=true then stepD s (some 168) 12 zbV dn (xLoad Tryz.prog 3 s.h.get (R s 167)) (D 6 zvM zbV 13) else D 6 zvM zbV 13 dn (skipS s (some 168)):=dI
theorem ZbE:D 6 zvM zbV 13 dn s=if wantB (R s 164) false=true then stepD s (some 169) 13 zbV dn (some { v:=(R s 5) }) (D 6 zvM zbV 14) else D 6 zvM zbV 14 dn (skipS s (some 169)):=dI
theorem ZbF:D 6 zvM zbV 14 dn s=if wantB (R s 164) false=true then stepD s (some 170) 14 zbV dn (some { v:=(R s 14) }) (D 6 zvM zbV 15) else D 6 zvM zbV 15 dn (skipS s (some 170)):=dI
theorem ZbG:D 6 zvM zbV 15 dn s=if wantB (R s 164) false=true then stepD s (some 171) 15 zbV dn (val (indexAddr Tryz.prog 27 (R s 169) (R s 170))) (D 6 zvM zbV 16) else D 6 zvM zbV 16 dn (skipS s (some 171)):=dI
theorem ZbH:D 6 zvM zbV 16 dn s=if wantB (R s 164) false=true then stepD s (some 172) 16 zbV dn (xLoad Tryz.prog 3 s.h.get (R s 171)) (D 6 zvM zbV 17) else D 6 zvM zbV 17 dn (skipS s (some 172)):=dI
theorem ZbI:D 6 zvM zbV 17 dn s=if wantB (R s 164) false=true then stepD s (some 173) 17 zbV dn (val (binV Tryz.prog .neq 3 false false (R s 168) (R s 172))) (D 6 zvM zbV 18) else D 6 zvM zbV 18 dn (skipS s (some 173)):=dI
theorem ZbJ:D 6 zvM zbV 18 dn s=stepD s (some 174) 18 zbV dn (xPick (R s 164) (.bool true) (R s 173)) (D 6 zvM zbV 19):=dR
theorem ZbK:D 6 zvM zbV 19 dn s=some [(.normal,s)]:=JJ (by kernel_rfl) dn s
def Zat:Code:=codeA Zas
def ZfZ:Code:=codeB Zas
theorem ZbU:C 6 Zas s=condV (R s 174) (C 6 Zat) (C 6 ZfZ) s:=zl (t:=174) (a:=Zat) (b:=ZfZ) (by kernel_rfl) _ _
theorem ZbV:C 6 ZfZ s=some [(.normal,s)]:=zp (by kernel_rfl) _ _
theorem Zbp:C 6 zZv s=O 6 zZv 0 s:=zb (id:=31) (ops:=regOps zZv) (by kernel_rfl) (by kernel_rfl) s
theorem Zbm:O 6 zZv 0 s=stepV s (some 175) (val (binV Tryz.prog .add 3 false true (R s 151) (.int .i64 (1)))) (O 6 zZv 1):=oR
theorem Zbn:O 6 zZv 1 s=stepV s (some 151) (some { v:=(R s 175) }) (O 6 zZv 2):=oR
theorem Zbo:O 6 zZv 2 s=some [(.normal,s)]:=zc (by kernel_rfl) s
def zZw:Code:=codeA Za4
def Zf0:Code:=codeB Za4
theorem Zam:C 6 Za4 s=thenV (C 6 zZw s) (C 6 Zf0):=za (a:=zZw) (b:=Zf0) (by kernel_rfl) _ _
theorem Zb2:C 6 zZw s=O 6 zZw 0 s:=zb (id:=32) (ops:=regOps zZw) (by kernel_rfl) (by kernel_rfl) s
theorem ZbZ:O 6 zZw 0 s=thenC (some 176) s (callS Tryz.prog hs ks 8 [] s.h) (O 6 zZw 1):=cR
theorem Zb0:O 6 zZw 1 s=stepV s (some 4) (some { v:=(R s 176) }) (O 6 zZw 2):=oR
theorem Zb1:O 6 zZw 2 s=some [(.normal,s)]:=zc (by kernel_rfl) s
theorem Zb3:C 6 Zf0 s=some [(.ret,s)]:=Zb (by kernel_rfl) _ _
end Go.Proofs.YtdlaladdeelegaaGreat.Cg
end
