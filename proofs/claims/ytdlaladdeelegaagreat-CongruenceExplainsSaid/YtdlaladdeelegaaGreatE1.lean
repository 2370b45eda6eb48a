/- Hints; equations of the code. -/
import Derived.Test.YtdlaladdeelegaaGreatA8
import Derived.Test.YtdlaladdeelegaaGreatD2
import Derived.KernelRfl
set_option linter.all false
noncomputable section
namespace Go.Proofs.YtdlaladdeelegaaGreat.Cg
section
open Go Go.Ae
section
def hs:Hint where
 heap f:=Nat.beq f 22||Nat.beq f 27
 rows f d:=match d with
  |some d=> (Nat.beq f 22 && (Nat.beq d 41||Nat.beq d 58||Nat.beq d 68))||(Nat.beq f 26 && Nat.beq d 26)
  |none=> false
 fix _ _:=[]
def ks:Known where
 call f args:=if f=8∧args=[] then some (.bool true) else none
 idle _:=false
abbrev R (s:St) (t:Nat):V:=T.get ZmM s.regs t
abbrev C (f:Nat) (c:Code):St→Option (List (Ex×St)):=Qc Tryz.prog hs ks ⟨f,none⟩ c
abbrev O (f:Nat) (c:Code) (j:Nat):St→Option (List (Ex×St)):=Qo Tryz.prog hs ks c j ⟨f,none⟩
abbrev D (f:Nat) (c:Code) (bef:List Nat) (j:Nat):List (Nat×Foot)→St→Option (List (Ex×St)):=Qd Tryz.prog hs ks c bef j ⟨f,none⟩
end
section
variable (dn:List (Nat×Foot)) (s:St)
def k3:Code:=Tryz.f3.body.getD .skip
def k7:Code:=Tryz.f7.body.getD .skip
theorem zVj (args:List V) (ha:args.length≤19) (h:H):(EV Tryz.prog hs ks).call 7 args h=Zm1 Tryz.prog hs ks Tryz.f7 (C 7 k7 (S 19 (ZCl args 0 fun _=> ZmM) [] h)):=Qu Tryz.func7 (by kernel_rfl) (by kernel_rfl) (by decide) rfl ha h
theorem zVk (f:Nat→V) (h:H):Zm1 Tryz.prog hs ks Tryz.f7 (some [(.ret,S 19 f [] h)])=ZCp (ZCk Tryz.prog (S 19 f [] h) [.tmp 6]) h:=Zc (by kernel_rfl) (Or.inl rfl) _ _
def ZFg:Code:=ZgE k7
def ZGo:Code:=ZhX k7
theorem ZJL:C 7 k7 s=thenV (C 7 ZFg s) (C 7 ZGo):=qS
theorem zU1:C 7 ZFg s=O 7 ZFg 0 s:=qG 0
theorem zUZ:O 7 ZFg 0 s=Zbb s (some 6) (some {v:=(.bool false)}) (O 7 ZFg 1):=oR
theorem zU0:O 7 ZFg 1 s=some [(.normal,s)]:=qe
def ZCJ:Code:=ZgE ZGo
def ZHB:Code:=ZhX ZGo
theorem zU2:C 7 ZGo s=thenV (C 7 ZCJ s) (C 7 ZHB):=qS
theorem zVh:C 7 ZCJ s=O 7 ZCJ 0 s:=qG 1
theorem zU3:O 7 ZCJ 0 s=Zbb s (some 7) (some {v:=R s 0}) (O 7 ZCJ 1):=oR
theorem zU4:O 7 ZCJ 1 s=Zbb s (some 8) (val (ZmJ Tryz.prog .leq 3 false true (R s 7) (.int .i64 (16)))) (O 7 ZCJ 2):=oR
theorem zU9:O 7 ZCJ 2 s=Zbb s (some 9) (some {v:=R s 8}) (O 7 ZCJ 3):=oR
theorem zVa:O 7 ZCJ 3 s=if Zmx (R s 9) true=true then Zbb s (some 10) (some {v:=R s 1}) (O 7 ZCJ 4) else O 7 ZCJ 4 (ZmH s (some 10)):=oI
theorem zVb:O 7 ZCJ 4 s=if Zmx (R s 9) true=true then Zbb s (some 11) (ZmL Tryz.prog false s.h.get s.h.n .len [22] [R s 10]) (O 7 ZCJ 5) else O 7 ZCJ 5 (ZmH s (some 11)):=oI
theorem zVc:O 7 ZCJ 5 s=if Zmx (R s 9) true=true then Zbb s (some 12) (val (ZmJ Tryz.prog .leq 3 false true (R s 11) (.int .i64 (16)))) (O 7 ZCJ 6) else O 7 ZCJ 6 (ZmH s (some 12)):=oI
theorem zVd:O 7 ZCJ 6 s=Zbb s (some 13) (ZCE (R s 9) (R s 12) (.bool false)) (O 7 ZCJ 7):=oR
theorem zVe:O 7 ZCJ 7 s=Zbb s (some 14) (some {v:=R s 13}) (O 7 ZCJ 8):=oR
theorem zVf:O 7 ZCJ 8 s=if Zmx (R s 14) true=true then Zbb s (some 15) (some {v:=R s 2}) (O 7 ZCJ 9) else O 7 ZCJ 9 (ZmH s (some 15)):=oI
theorem zVg:O 7 ZCJ 9 s=if Zmx (R s 14) true=true then Zbb s (some 16) (ZmL Tryz.prog false s.h.get s.h.n .len [22] [R s 15]) (O 7 ZCJ 10) else O 7 ZCJ 10 (ZmH s (some 16)):=oI
theorem zU5:O 7 ZCJ 10 s=if Zmx (R s 14) true=true then Zbb s (some 17) (val (ZmJ Tryz.prog .leq 3 false true (R s 16) (.int .i64 (16)))) (O 7 ZCJ 11) else O 7 ZCJ 11 (ZmH s (some 17)):=oI
theorem zU6:O 7 ZCJ 11 s=Zbb s (some 18) (ZCE (R s 14) (R s 17) (.bool false)) (O 7 ZCJ 12):=oR
theorem zU7:O 7 ZCJ 12 s=Zbb s (some 6) (some {v:=R s 18}) (O 7 ZCJ 13):=oR
theorem zU8:O 7 ZCJ 13 s=some [(.normal,s)]:=qe
theorem zVi:C 7 ZHB s=some [(.ret,s)]:=qR
def k21:Code:=Tryz.f21.body.getD .skip
theorem zRm (args:List V) (ha:args.length≤56) (h:H):(EV Tryz.prog hs ks).call 21 args h=Zm1 Tryz.prog hs ks Tryz.f21 (C 21 k21 (S 56 (ZCl args 0 fun _=> ZmM) [] h)):=Qu Tryz.func21 (by kernel_rfl) (by kernel_rfl) (by decide) rfl ha h
theorem zAu (f:Nat→V) (h:H):Zm1 Tryz.prog hs ks Tryz.f21 (some [(.ret,S 56 f [] h)])=ZCp (ZCk Tryz.prog (S 56 f [] h) [.tmp 6]) h:=Zc (by kernel_rfl) (Or.inl rfl) _ _
def zb6:Code:=ZgE k21
def zlg:Code:=ZhX k21
theorem zAt:C 21 k21 s=thenV (C 21 zb6 s) (C 21 zlg):=qS
theorem zFd:C 21 zb6 s=O 21 zb6 0 s:=qG 0
theorem zFb:O 21 zb6 0 s=Zbb s (some 6) (some {v:=(.int .i64 (0))}) (O 21 zb6 1):=oR
theorem zFc:O 21 zb6 1 s=some [(.normal,s)]:=qe
def zw8:Code:=ZgE zlg
def zlt:Code:=ZhX zlg
theorem zjE:C 21 zlg s=thenV (C 21 zw8 s) (C 21 zlt):=qS
def zlz:Code:=ZgE zw8
theorem zFM:C 21 zw8 s=ZmZ 0 (C 21 zlz s):=qB
def zal:Code:=ZgE zlz
def zlN:Code:=ZhX zlz
theorem zGs:C 21 zlz s=thenV (C 21 zal s) (C 21 zlN):=qS
theorem zGJ:C 21 zal s=O 21 zal 0 s:=qG 1
theorem zGF:O 21 zal 0 s=Zbb s (some 13) (some {v:=R s 0}) (O 21 zal 1):=oR
theorem zGG:O 21 zal 1 s=Zbb s (some 14) (val (ZmJ Tryz.prog .lss 3 false true (R s 13) (.int .i64 (0)))) (O 21 zal 2):=oR
theorem zGH:O 21 zal 2 s=Zbb s (some 12) (some {v:=R s 14}) (O 21 zal 3):=oR
theorem zGI:O 21 zal 3 s=some [(.normal,s)]:=qe
def zlS:Code:=ZgE zlN
def zlT:Code:=ZhX zlN
theorem zHb:C 21 zlN s=ZmY (R s 12) (C 21 zlS) (C 21 zlT) s:=qC
def zcd:Code:=ZgE zlS
def zAg:Code:=ZhX zlS
theorem zHl:C 21 zlS s=thenV (C 21 zcd s) (C 21 zAg):=qS
theorem zHp:C 21 zcd s=O 21 zcd 0 s:=qG 2
theorem zHn:O 21 zcd 0 s=Zbb s (some 6) (some {v:=(.int .i64 (2))}) (O 21 zcd 1):=oR
theorem zHo:O 21 zcd 1 s=some [(.normal,s)]:=qe
theorem zFe:C 21 zAg s=some [(.ret,s)]:=qR
def zlh:Code:=ZgE zlT
def zli:Code:=ZhX zlT
theorem zHm:C 21 zlT s=thenV (C 21 zlh s) (C 21 zli):=qS
def zaj:Code:=ZgE zlh
def zlj:Code:=ZhX zlh
theorem zFf:C 21 zlh s=thenV (C 21 zaj s) (C 21 zlj):=qS
theorem zFl:C 21 zaj s=O 21 zaj 0 s:=qG 3
theorem zFh:O 21 zaj 0 s=Zbb s (some 16) (some {v:=R s 0}) (O 21 zaj 1):=oR
theorem zFi:O 21 zaj 1 s=Zbb s (some 17) (val (ZmJ Tryz.prog .gtr 3 false true (R s 16) (.int .i64 (2000)))) (O 21 zaj 2):=oR
theorem zFj:O 21 zaj 2 s=Zbb s (some 15) (some {v:=R s 17}) (O 21 zaj 3):=oR
theorem zFk:O 21 zaj 3 s=some [(.normal,s)]:=qe
def zAh:Code:=ZgE zlj
def zlk:Code:=ZhX zlj
theorem zFm:C 21 zlj s=ZmY (R s 15) (C 21 zAh) (C 21 zlk) s:=qC
def Qw:Code:=ZgE zlk
def zll:Code:=ZhX zlk
theorem zFn:C 21 zlk s=thenV (C 21 Qw s) (C 21 zll):=qS
theorem zFv:C 21 Qw s=O 21 Qw 0 s:=qG 4
theorem zFo:O 21 Qw 0 s=Zbb s (some 18) (some {v:=R s 0}) (O 21 Qw 1):=oR
theorem zFp:O 21 Qw 1 s=Zbb s (some 19) (some {v:=R s 1}) (O 21 Qw 2):=oR
theorem zFq:O 21 Qw 2 s=Zbb s (some 20) (ZmL Tryz.prog false s.h.get s.h.n .len [22] [R s 19]) (O 21 Qw 3):=oR
theorem zFr:O 21 Qw 3 s=Zbb s (some 21) (val (ZmJ Tryz.prog .add 3 false false (R s 18) (R s 20))) (O 21 Qw 4):=oR
theorem zFs:O 21 Qw 4 s=Zbb s (some 22) (val (ZmJ Tryz.prog .gtr 3 false true (R s 21) (.int .i64 (2000)))) (O 21 Qw 5):=oR
theorem zFt:O 21 Qw 5 s=Zbb s (some 15) (some {v:=R s 22}) (O 21 Qw 6):=oR
theorem zFu:O 21 Qw 6 s=some [(.normal,s)]:=qe
def zAi:Code:=ZgE zll
def QX:Code:=ZhX zll
theorem zFw:C 21 zll s=ZmY (R s 15) (C 21 zAi) (C 21 QX) s:=qC
theorem zFC:C 21 QX s=O 21 QX 0 s:=qG 5
theorem zFx:O 21 QX 0 s=Zbb s (some 23) (some {v:=R s 2}) (O 21 QX 1):=oR
theorem zFy:O 21 QX 1 s=Zbb s (some 24) (ZmL Tryz.prog false s.h.get s.h.n .len [22] [R s 23]) (O 21 QX 2):=oR
theorem zFz:O 21 QX 2 s=Zbb s (some 25) (val (ZmJ Tryz.prog .gtr 3 false true (R s 24) (.int .i64 (2000)))) (O 21 QX 3):=oR
theorem zFA:O 21 QX 3 s=Zbb s (some 15) (some {v:=R s 25}) (O 21 QX 4):=oR
theorem zFB:O 21 QX 4 s=some [(.normal,s)]:=qe
def zlm:Code:=ZgE zli
def zAj:Code:=ZhX zli
theorem zFg:C 21 zli s=ZmY (R s 15) (C 21 zlm) (C 21 zAj) s:=qC
theorem zFD:C 21 zAj s=some [(.normal,s)]:=qK
def zb7:Code:=ZgE zlt
def zln:Code:=ZhX zlt
theorem zFX:C 21 zlt s=thenV (C 21 zb7 s) (C 21 zln):=qS
theorem zFG:C 21 zb7 s=O 21 zb7 0 s:=qG 7
theorem zFE:O 21 zb7 0 s=Zbb s (some 7) (some {v:=(.fn (.func 47) [] [])}) (O 21 zb7 1):=oR
theorem zFF:O 21 zb7 1 s=some [(.normal,s)]:=qe
def zlp:Code:=ZgE zln
def zlr:Code:=ZhX zln
theorem zlo:C 21 zln s=thenV (C 21 zlp s) (C 21 zlr):=qS
def zak:Code:=ZgE zlp
def zw9:Code:=ZhX zlp
theorem zlq:C 21 zlp s=thenV (C 21 zak s) (C 21 zw9):=qS
theorem zFL:C 21 zak s=O 21 zak 0 s:=qG 8
theorem zFH:O 21 zak 0 s=Zbb s (some 26) (some {v:=R s 1}) (O 21 zak 1):=oR
theorem zFI:O 21 zak 1 s=Zbb s (some 27) (ZmL Tryz.prog false s.h.get s.h.n .len [22] [R s 26]) (O 21 zak 2):=oR
theorem zFJ:O 21 zak 2 s=Zbb s (some 28) (some {v:=(.int .i64 (0))}) (O 21 zak 3):=oR
theorem zFK:O 21 zak 3 s=some [(.normal,s)]:=qe
def zjF:Code:=ZgE zw9
theorem zlu:C 21 zw9 s=ZmZ 1 (C 21 zjF s):=qB
def zlv:Code:=ZgE zjF
theorem zFN:C 21 zjF s=thenV (C 21 zlv s) (C 21 zjF):=qL
def zb8:Code:=ZgE zlv
def zlw:Code:=ZhX zlv
theorem zFO:C 21 zlv s=thenV (C 21 zb8 s) (C 21 zlw):=qS
theorem zFR:C 21 zb8 s=O 21 zb8 0 s:=qG 9
theorem zFP:O 21 zb8 0 s=Zbb s (some 29) (val (ZmJ Tryz.prog .lss 3 false false (R s 28) (R s 27))) (O 21 zb8 1):=oR
theorem zFQ:O 21 zb8 1 s=some [(.normal,s)]:=qe
def zlx:Code:=ZgE zlw
def zly:Code:=ZhX zlw
theorem zFS:C 21 zlw s=thenV (C 21 zlx s) (C 21 zly):=qS
def zAk:Code:=ZgE zlx
def zAl:Code:=ZhX zlx
theorem zFT:C 21 zlx s=ZmY (R s 29) (C 21 zAk) (C 21 zAl) s:=qC
theorem zFU:C 21 zAk s=some [(.normal,s)]:=qK
theorem zFV:C 21 zAl s=some [(.exit 1,s)]:=qE
def zxa:Code:=ZgE zly
def zbc:Code:=ZhX zly
theorem zjG:C 21 zly s=thenV (C 21 zxa s) (C 21 zbc):=qS
def zlA:Code:=ZgE zxa
theorem zFW:C 21 zxa s=ZmZ 2 (C 21 zlA s):=qB
def Qx:Code:=ZgE zlA
def zlB:Code:=ZhX zlA
theorem zF2:C 21 zlA s=thenV (C 21 Qx s) (C 21 zlB):=qS
theorem zGa:C 21 Qx s=O 21 Qx 0 s:=qG 10
theorem zF3:O 21 Qx 0 s=Zbb s (some 30) (some {v:=R s 28}) (O 21 Qx 1):=oR
theorem zF4:O 21 Qx 1 s=Zbb s (some 31) (val (indexAddr Tryz.prog 22 (R s 26) (R s 28))) (O 21 Qx 2):=oR
theorem zF5:O 21 Qx 2 s=Zbb s (some 32) (Zi3 Tryz.prog 42 s.h.get (R s 31)) (O 21 Qx 3):=oR
theorem zF6:O 21 Qx 3 s=Zbb s (some 9) (some {v:=.ptr s.h.n 0,nw:=[.row 0 [.int .i64 (0),.int .i64 (0)]]}) (O 21 Qx 4):=oR
theorem zF7:O 21 Qx 4 s=Zbb s (some 8) (some {v:=R s 30}) (O 21 Qx 5):=oR
theorem zF8:O 21 Qx 5 s=Zbb s none (ZnB Tryz.prog 42 s.h.get (R s 9) (R s 32)) (O 21 Qx 6):=oR
theorem zF9:O 21 Qx 6 s=some [(.normal,s)]:=qe
def Qm:Code:=ZgE zlB
def zlC:Code:=ZhX zlB
theorem zGb:C 21 zlB s=thenV (C 21 Qm s) (C 21 zlC):=qS
theorem zGk:C 21 Qm s=O 21 Qm 0 s:=qG 11
theorem zGc:O 21 Qm 0 s=Zbb s (some 33) (some {v:=R s 7}) (O 21 Qm 1):=oR
theorem zGd:O 21 Qm 1 s=Zbb s (some 34) (Zi3 Tryz.prog 42 s.h.get (R s 9)) (O 21 Qm 2):=oR
theorem zGe:O 21 Qm 2 s=Zbb s (some 35) (some {v:=R s 0}) (O 21 Qm 3):=oR
theorem zGf:O 21 Qm 3 s=Zbb s (some 36) (some {v:=R s 8}) (O 21 Qm 4):=oR
theorem zGg:O 21 Qm 4 s=Zbb s (some 37) (val (ZmJ Tryz.prog .add 3 false false (R s 35) (R s 36))) (O 21 Qm 5):=oR
theorem zGh:O 21 Qm 5 s=ZCo (some 38) s (ZDX Tryz.prog hs ks (ZFa (R s 33) [R s 34,R s 37]) s.h) (O 21 Qm 6):=xR
theorem zGi:O 21 Qm 6 s=Zbb s (some 39) (xUn .not (R s 38)) (O 21 Qm 7):=oR
theorem zGj:O 21 Qm 7 s=some [(.normal,s)]:=qe
def zlD:Code:=ZgE zlC
def zAm:Code:=ZhX zlC
theorem zGl:C 21 zlC s=ZmY (R s 39) (C 21 zlD) (C 21 zAm) s:=qC
def zb9:Code:=ZgE zlD
def zAn:Code:=ZhX zlD
theorem zGm:C 21 zlD s=thenV (C 21 zb9 s) (C 21 zAn):=qS
theorem zGq:C 21 zb9 s=O 21 zb9 0 s:=qG 12
theorem zGo:O 21 zb9 0 s=Zbb s (some 6) (some {v:=(.int .i64 (2))}) (O 21 zb9 1):=oR
theorem zGp:O 21 zb9 1 s=some [(.normal,s)]:=qe
theorem zGr:C 21 zAn s=some [(.ret,s)]:=qR
theorem zGn:C 21 zAm s=some [(.normal,s)]:=qK
theorem zF1:C 21 zbc s=O 21 zbc 0 s:=qG 13
theorem zFY:O 21 zbc 0 s=Zbb s (some 40) (val (ZmJ Tryz.prog .add 3 false true (R s 28) (.int .i64 (1)))) (O 21 zbc 1):=oR
theorem zFZ:O 21 zbc 1 s=Zbb s (some 28) (some {v:=R s 40}) (O 21 zbc 2):=oR
theorem zF0:O 21 zbc 2 s=some [(.normal,s)]:=qe
def zlE:Code:=ZgE zlr
def zlG:Code:=ZhX zlr
theorem zls:C 21 zlr s=thenV (C 21 zlE s) (C 21 zlG):=qS
def zam:Code:=ZgE zlE
def zxb:Code:=ZhX zlE
theorem zlF:C 21 zlE s=thenV (C 21 zam s) (C 21 zxb):=qS
theorem zGx:C 21 zam s=O 21 zam 0 s:=qG 14
theorem zGt:O 21 zam 0 s=Zbb s (some 41) (some {v:=R s 2}) (O 21 zam 1):=oR
theorem zGu:O 21 zam 1 s=Zbb s (some 42) (ZmL Tryz.prog false s.h.get s.h.n .len [22] [R s 41]) (O 21 zam 2):=oR
theorem zGv:O 21 zam 2 s=Zbb s (some 43) (some {v:=(.int .i64 (0))}) (O 21 zam 3):=oR
theorem zGw:O 21 zam 3 s=some [(.normal,s)]:=qe
def zjH:Code:=ZgE zxb
theorem zlI:C 21 zxb s=ZmZ 3 (C 21 zjH s):=qB
def zlJ:Code:=ZgE zjH
theorem zGy:C 21 zjH s=thenV (C 21 zlJ s) (C 21 zjH):=qL
def zca:Code:=ZgE zlJ
def zlK:Code:=ZhX zlJ
theorem zGz:C 21 zlJ s=thenV (C 21 zca s) (C 21 zlK):=qS
theorem zGC:C 21 zca s=O 21 zca 0 s:=qG 15
theorem zGA:O 21 zca 0 s=Zbb s (some 44) (val (ZmJ Tryz.prog .lss 3 false false (R s 43) (R s 42))) (O 21 zca 1):=oR
theorem zGB:O 21 zca 1 s=some [(.normal,s)]:=qe
def zlL:Code:=ZgE zlK
def zlM:Code:=ZhX zlK
theorem zGD:C 21 zlK s=thenV (C 21 zlL s) (C 21 zlM):=qS
def zAo:Code:=ZgE zlL
def zAp:Code:=ZhX zlL
theorem zGE:C 21 zlL s=ZmY (R s 44) (C 21 zAo) (C 21 zAp) s:=qC
theorem zGK:C 21 zAo s=some [(.normal,s)]:=qK
theorem zGL:C 21 zAp s=some [(.exit 3,s)]:=qE
def zxc:Code:=ZgE zlM
def zbd:Code:=ZhX zlM
theorem zjI:C 21 zlM s=thenV (C 21 zxc s) (C 21 zbd):=qS
def zlO:Code:=ZgE zxc
theorem zGM:C 21 zxc s=ZmZ 4 (C 21 zlO s):=qB
def QY:Code:=ZgE zlO
def zlP:Code:=ZhX zlO
theorem zGR:C 21 zlO s=thenV (C 21 QY s) (C 21 zlP):=qS
theorem zGX:C 21 QY s=O 21 QY 0 s:=qG 16
theorem zGS:O 21 QY 0 s=Zbb s (some 45) (val (indexAddr Tryz.prog 22 (R s 41) (R s 43))) (O 21 QY 1):=oR
theorem zGT:O 21 QY 1 s=Zbb s (some 46) (Zi3 Tryz.prog 42 s.h.get (R s 45)) (O 21 QY 2):=oR
theorem zGU:O 21 QY 2 s=Zbb s (some 11) (some {v:=.ptr s.h.n 0,nw:=[.row 0 [.int .i64 (0),.int .i64 (0)]]}) (O 21 QY 3):=oR
theorem zGV:O 21 QY 3 s=Zbb s none (ZnB Tryz.prog 42 s.h.get (R s 11) (R s 46)) (O 21 QY 4):=oR
theorem zGW:O 21 QY 4 s=some [(.normal,s)]:=qe
def Qf:Code:=ZgE zlP
def zlQ:Code:=ZhX zlP
theorem zGY:C 21 zlP s=thenV (C 21 Qf s) (C 21 zlQ):=qS
theorem zG8:C 21 Qf s=O 21 Qf 0 s:=qG 17
theorem zGZ:O 21 Qf 0 s=Zbb s (some 47) (some {v:=R s 7}) (O 21 Qf 1):=oR
theorem zG0:O 21 Qf 1 s=Zbb s (some 48) (Zi3 Tryz.prog 42 s.h.get (R s 11)) (O 21 Qf 2):=oR
theorem zG1:O 21 Qf 2 s=Zbb s (some 49) (some {v:=R s 0}) (O 21 Qf 3):=oR
theorem zG2:O 21 Qf 3 s=Zbb s (some 50) (some {v:=R s 1}) (O 21 Qf 4):=oR
theorem zG3:O 21 Qf 4 s=Zbb s (some 51) (ZmL Tryz.prog false s.h.get s.h.n .len [22] [R s 50]) (O 21 Qf 5):=oR
theorem zG4:O 21 Qf 5 s=Zbb s (some 52) (val (ZmJ Tryz.prog .add 3 false false (R s 49) (R s 51))) (O 21 Qf 6):=oR
theorem zG5:O 21 Qf 6 s=ZCo (some 53) s (ZDX Tryz.prog hs ks (ZFa (R s 47) [R s 48,R s 52]) s.h) (O 21 Qf 7):=xR
theorem zG6:O 21 Qf 7 s=Zbb s (some 54) (xUn .not (R s 53)) (O 21 Qf 8):=oR
theorem zG7:O 21 Qf 8 s=some [(.normal,s)]:=qe
def zlR:Code:=ZgE zlQ
def zAq:Code:=ZhX zlQ
theorem zG9:C 21 zlQ s=ZmY (R s 54) (C 21 zlR) (C 21 zAq) s:=qC
def zcb:Code:=ZgE zlR
def zAr:Code:=ZhX zlR
theorem zHa:C 21 zlR s=thenV (C 21 zcb s) (C 21 zAr):=qS
theorem zHf:C 21 zcb s=O 21 zcb 0 s:=qG 18
theorem zHd:O 21 zcb 0 s=Zbb s (some 6) (some {v:=(.int .i64 (2))}) (O 21 zcb 1):=oR
theorem zHe:O 21 zcb 1 s=some [(.normal,s)]:=qe
theorem zHg:C 21 zAr s=some [(.ret,s)]:=qR
theorem zHc:C 21 zAq s=some [(.normal,s)]:=qK
theorem zGQ:C 21 zbd s=O 21 zbd 0 s:=qG 19
theorem zGN:O 21 zbd 0 s=Zbb s (some 55) (val (ZmJ Tryz.prog .add 3 false true (R s 43) (.int .i64 (1)))) (O 21 zbd 1):=oR
theorem zGO:O 21 zbd 1 s=Zbb s (some 43) (some {v:=R s 55}) (O 21 zbd 2):=oR
theorem zGP:O 21 zbd 2 s=some [(.normal,s)]:=qe
def zcc:Code:=ZgE zlG
def zAs:Code:=ZhX zlG
theorem zlH:C 21 zlG s=thenV (C 21 zcc s) (C 21 zAs):=qS
theorem zHj:C 21 zcc s=O 21 zcc 0 s:=qG 20
theorem zHh:O 21 zcc 0 s=Zbb s (some 6) (some {v:=(.int .i64 (0))}) (O 21 zcc 1):=oR
theorem zHi:O 21 zcc 1 s=some [(.normal,s)]:=qe
theorem zHk:C 21 zAs s=some [(.ret,s)]:=qR
def k47:Code:=Tryz.f47.body.getD .skip
theorem zSx (args:List V) (ha:args.length≤20) (h:H):(EV Tryz.prog hs ks).call 47 args h=Zm1 Tryz.prog hs ks Tryz.f47 (C 47 k47 (S 20 (ZCl args 0 fun _=> ZmM) [] h)):=Qu Tryz.func47 (by kernel_rfl) (by kernel_rfl) (by decide) rfl ha h
theorem zLG (f:Nat→V) (h:H):Zm1 Tryz.prog hs ks Tryz.f47 (some [(.ret,S 20 f [] h)])=ZCp (ZCk Tryz.prog (S 20 f [] h) [.tmp 4]) h:=Zc (by kernel_rfl) (Or.inl rfl) _ _
def zby:Code:=ZgE k47
def zu6:Code:=ZhX k47
theorem zLF:C 47 k47 s=thenV (C 47 zby s) (C 47 zu6):=qS
theorem zLk:C 47 zby s=O 47 zby 0 s:=qG 0
theorem zLh:O 47 zby 0 s=Zbb s (some 2) (some {v:=.ptr s.h.n 0,nw:=[.row 0 (V.cells (R s 0))]}) (O 47 zby 1):=oR
theorem zLi:O 47 zby 1 s=Zbb s (some 4) (some {v:=(.bool false)}) (O 47 zby 2):=oR
theorem zLj:O 47 zby 2 s=some [(.normal,s)]:=qe
def zR:Code:=ZgE zu6
def zB0:Code:=ZhX zu6
theorem zLl:C 47 zu6 s=thenV (C 47 zR s) (C 47 zB0):=qS
theorem zLD:C 47 zR s=O 47 zR 0 s:=qG 1
theorem zLm:O 47 zR 0 s=Zbb s (some 5) (val (indexAddr Tryz.prog 42 (R s 2) (.int .i64 (0)))) (O 47 zR 1):=oR
theorem zLn:O 47 zR 1 s=Zbb s (some 6) (Zi3 Tryz.prog 3 s.h.get (R s 5)) (O 47 zR 2):=oR
theorem zLv:O 47 zR 2 s=Zbb s (some 7) (val (indexAddr Tryz.prog 42 (R s 2) (.int .i64 (1)))) (O 47 zR 3):=oR
theorem zLw:O 47 zR 3 s=Zbb s (some 8) (Zi3 Tryz.prog 3 s.h.get (R s 7)) (O 47 zR 4):=oR
theorem zLx:O 47 zR 4 s=Zbb s (some 9) (ZmL Tryz.prog false s.h.get s.h.n .min [3,3] [R s 6,R s 8]) (O 47 zR 5):=oR
theorem zLy:O 47 zR 5 s=Zbb s (some 10) (val (ZmJ Tryz.prog .geq 3 false true (R s 9) (.int .i64 (0)))) (O 47 zR 6):=oR
theorem zLz:O 47 zR 6 s=Zbb s (some 11) (some {v:=R s 10}) (O 47 zR 7):=oR
theorem zLA:O 47 zR 7 s=if Zmx (R s 11) true=true then Zbb s (some 12) (val (indexAddr Tryz.prog 42 (R s 2) (.int .i64 (0)))) (O 47 zR 8) else O 47 zR 8 (ZmH s (some 12)):=oI
theorem zLB:O 47 zR 8 s=if Zmx (R s 11) true=true then Zbb s (some 13) (Zi3 Tryz.prog 3 s.h.get (R s 12)) (O 47 zR 9) else O 47 zR 9 (ZmH s (some 13)):=oI
theorem zLC:O 47 zR 9 s=if Zmx (R s 11) true=true then Zbb s (some 14) (val (indexAddr Tryz.prog 42 (R s 2) (.int .i64 (1)))) (O 47 zR 10) else O 47 zR 10 (ZmH s (some 14)):=oI
theorem zLo:O 47 zR 10 s=if Zmx (R s 11) true=true then Zbb s (some 15) (Zi3 Tryz.prog 3 s.h.get (R s 14)) (O 47 zR 11) else O 47 zR 11 (ZmH s (some 15)):=oI
theorem zLp:O 47 zR 11 s=if Zmx (R s 11) true=true then Zbb s (some 16) (ZmL Tryz.prog false s.h.get s.h.n .max [3,3] [R s 13,R s 15]) (O 47 zR 12) else O 47 zR 12 (ZmH s (some 16)):=oI
theorem zLq:O 47 zR 12 s=if Zmx (R s 11) true=true then Zbb s (some 17) (some {v:=R s 1}) (O 47 zR 13) else O 47 zR 13 (ZmH s (some 17)):=oI
theorem zLr:O 47 zR 13 s=if Zmx (R s 11) true=true then Zbb s (some 18) (val (ZmJ Tryz.prog .lss 3 false false (R s 16) (R s 17))) (O 47 zR 14) else O 47 zR 14 (ZmH s (some 18)):=oI
theorem zLs:O 47 zR 14 s=Zbb s (some 19) (ZCE (R s 11) (R s 18) (.bool false)) (O 47 zR 15):=oR
theorem zLt:O 47 zR 15 s=Zbb s (some 4) (some {v:=R s 19}) (O 47 zR 16):=oR
theorem zLu:O 47 zR 16 s=some [(.normal,s)]:=qe
theorem zLE:C 47 zB0 s=some [(.ret,s)]:=qR
end
section
variable (dn:List (Nat×Foot)) (s:St)
def k48:Code:=Tryz.f48.body.getD .skip
theorem zTK (args:List V) (ha:args.length≤58) (h:H):(EV Tryz.prog hs ks).call 48 args h=Zm1 Tryz.prog hs ks Tryz.f48 (C 48 k48 (S 58 (ZCl args 0 fun _=> ZmM) [] h)):=Qu Tryz.func48 (by kernel_rfl) (by kernel_rfl) (by decide) rfl ha h
theorem zTL (f:Nat→V) (h:H):Zm1 Tryz.prog hs ks Tryz.f48 (some [(.normal,S 58 f [] h)])=ZCp (ZCk Tryz.prog (S 58 f [] h) []) h:=Zc (by kernel_rfl) (Or.inr rfl) _ _
def Zr:Code:=ZgE k48
def zu7:Code:=ZhX k48
theorem zTJ:C 48 k48 s=thenV (C 48 Zr s) (C 48 zu7):=qS
def zS:List Nat:=[0,1,3,7,0,0,32,96,224,496,1023,2047,0,8191]
theorem zSN:C 48 Zr s=D 48 Zr zS 0 [] s:=qD 0
theorem zSy:D 48 Zr zS 0 dn s=ZhW s (some 8) 0 zS dn (some {v:=R s 0}) (D 48 Zr zS 1):=dR
theorem zSz:D 48 Zr zS 1 dn s=ZhW s (some 9) 1 zS dn (ZCn Tryz.prog (R s 8)) (D 48 Zr zS 2):=dR
theorem zSF:D 48 Zr zS 2 dn s=ZhW s (some 10) 2 zS dn (val (ZmN (R s 9) 1)) (D 48 Zr zS 3):=dR
theorem zSG:D 48 Zr zS 3 dn s=ZhW s (some 11) 3 zS dn (Zi3 Tryz.prog 22 s.h.get (R s 10)) (D 48 Zr zS 4):=dR
theorem zSH:D 48 Zr zS 4 dn s=ZhW s (some 12) 4 zS dn (some {v:=R s 1}) (D 48 Zr zS 5):=dR
theorem zSI:D 48 Zr zS 5 dn s=ZhW s (some 13) 5 zS dn (some {v:=R s 0}) (D 48 Zr zS 6):=dR
theorem zSJ:D 48 Zr zS 6 dn s=ZhW s (some 14) 6 zS dn (ZCn Tryz.prog (R s 13)) (D 48 Zr zS 7):=dR
theorem zSK:D 48 Zr zS 7 dn s=ZhW s (some 15) 7 zS dn (val (ZmN (R s 14) 0)) (D 48 Zr zS 8):=dR
theorem zSL:D 48 Zr zS 8 dn s=ZhW s (some 16) 8 zS dn (Zi3 Tryz.prog 3 s.h.get (R s 15)) (D 48 Zr zS 9):=dR
theorem zSM:D 48 Zr zS 9 dn s=ZhW s (some 17) 9 zS dn (val (ZmJ Tryz.prog .sub 3 false false (R s 12) (R s 16))) (D 48 Zr zS 10):=dR
theorem zSA:D 48 Zr zS 10 dn s=ZhW s (some 18) 10 zS dn (val (indexAddr Tryz.prog 22 (R s 11) (R s 17))) (D 48 Zr zS 11):=dR
theorem zSB:D 48 Zr zS 11 dn s=ZhW s (some 19) 11 zS dn (Zi3 Tryz.prog 42 s.h.get (R s 18)) (D 48 Zr zS 12):=dR
theorem zSC:D 48 Zr zS 12 dn s=ZhW s (some 4) 12 zS dn (some {v:=.ptr s.h.n 0,nw:=[.row 0 [.int .i64 (0),.int .i64 (0)]]}) (D 48 Zr zS 13):=dR
theorem zSD:D 48 Zr zS 13 dn s=ZhW s none 13 zS dn (ZnB Tryz.prog 42 s.h.get (R s 4) (R s 19)) (D 48 Zr zS 14):=dR
theorem zSE:D 48 Zr zS 14 dn s=some [(.normal,s)]:=qd
def zT:Code:=ZgE zu7
def zu8:Code:=ZhX zu7
theorem zSO:C 48 zu7 s=thenV (C 48 zT s) (C 48 zu8):=qS
def zv:List Nat:=[0,1,3,7,0,16,63,127,0,256,768,1792,0,4096,16128,32512,65535,0,262143]
theorem zS9:C 48 zT s=D 48 zT zv 0 [] s:=qD 1
theorem zSP:D 48 zT zv 0 dn s=ZhW s (some 20) 0 zv dn (some {v:=R s 0}) (D 48 zT zv 1):=dR
theorem zSQ:D 48 zT zv 1 dn s=ZhW s (some 21) 1 zv dn (ZCn Tryz.prog (R s 20)) (D 48 zT zv 2):=dR
theorem zS1:D 48 zT zv 2 dn s=ZhW s (some 22) 2 zv dn (val (ZmN (R s 21) 2)) (D 48 zT zv 3):=dR
theorem zS2:D 48 zT zv 3 dn s=ZhW s (some 23) 3 zv dn (Zi3 Tryz.prog 27 s.h.get (R s 22)) (D 48 zT zv 4):=dR
theorem zS3:D 48 zT zv 4 dn s=ZhW s (some 24) 4 zv dn (val (indexAddr Tryz.prog 42 (R s 4) (.int .i64 (0)))) (D 48 zT zv 5):=dR
theorem zS4:D 48 zT zv 5 dn s=ZhW s (some 25) 5 zv dn (Zi3 Tryz.prog 3 s.h.get (R s 24)) (D 48 zT zv 6):=dR
theorem zS5:D 48 zT zv 6 dn s=ZhW s (some 26) 6 zv dn (val (indexAddr Tryz.prog 27 (R s 23) (R s 25))) (D 48 zT zv 7):=dR
theorem zS6:D 48 zT zv 7 dn s=ZhW s (some 27) 7 zv dn (Zi3 Tryz.prog 3 s.h.get (R s 26)) (D 48 zT zv 8):=dR
theorem zS7:D 48 zT zv 8 dn s=ZhW s (some 28) 8 zv dn (some {v:=R s 0}) (D 48 zT zv 9):=dR
theorem zS8:D 48 zT zv 9 dn s=ZhW s (some 29) 9 zv dn (ZCn Tryz.prog (R s 28)) (D 48 zT zv 10):=dR
theorem zSR:D 48 zT zv 10 dn s=ZhW s (some 30) 10 zv dn (val (ZmN (R s 29) 2)) (D 48 zT zv 11):=dR
theorem zSS:D 48 zT zv 11 dn s=ZhW s (some 31) 11 zv dn (Zi3 Tryz.prog 27 s.h.get (R s 30)) (D 48 zT zv 12):=dR
theorem zST:D 48 zT zv 12 dn s=ZhW s (some 32) 12 zv dn (val (indexAddr Tryz.prog 42 (R s 4) (.int .i64 (1)))) (D 48 zT zv 13):=dR
theorem zSU:D 48 zT zv 13 dn s=ZhW s (some 33) 13 zv dn (Zi3 Tryz.prog 3 s.h.get (R s 32)) (D 48 zT zv 14):=dR
theorem zSV:D 48 zT zv 14 dn s=ZhW s (some 34) 14 zv dn (val (indexAddr Tryz.prog 27 (R s 31) (R s 33))) (D 48 zT zv 15):=dR
theorem zSW:D 48 zT zv 15 dn s=ZhW s (some 35) 15 zv dn (Zi3 Tryz.prog 3 s.h.get (R s 34)) (D 48 zT zv 16):=dR
theorem zSX:D 48 zT zv 16 dn s=ZhW s (some 36) 16 zv dn (val (build Tryz.prog 170 [(0,(R s 27)),(1,(R s 35))])) (D 48 zT zv 17):=dR
theorem zSY:D 48 zT zv 17 dn s=ZhW s (some 5) 17 zv dn (some {v:=.ptr s.h.n 0,nw:=[.row 0 [.int .i64 (0),.int .i64 (0)]]}) (D 48 zT zv 18):=dR
theorem zSZ:D 48 zT zv 18 dn s=ZhW s none 18 zv dn (ZnB Tryz.prog 170 s.h.get (R s 5) (R s 36)) (D 48 zT zv 19):=dR
theorem zS0:D 48 zT zv 19 dn s=some [(.normal,s)]:=qd
def JV:Code:=ZgE zu8
def zu9:Code:=ZhX zu8
theorem zTa:C 48 zu8 s=thenV (C 48 JV s) (C 48 zu9):=qS
def Zl:List Nat:=[0,1,3,7,0,31,63,127,127,255,1023]
theorem zTn:C 48 JV s=D 48 JV Zl 0 [] s:=qD 2
theorem zTb:D 48 JV Zl 0 dn s=ZhW s (some 38) 0 Zl dn (some {v:=R s 0}) (D 48 JV Zl 1):=dR
theorem zTc:D 48 JV Zl 1 dn s=ZhW s (some 39) 1 Zl dn (ZCn Tryz.prog (R s 38)) (D 48 JV Zl 2):=dR
theorem zTf:D 48 JV Zl 2 dn s=ZhW s (some 40) 2 Zl dn (val (ZmN (R s 39) 5)) (D 48 JV Zl 3):=dR
theorem zTg:D 48 JV Zl 3 dn s=ZhW s (some 41) 3 Zl dn (Zi3 Tryz.prog 79 s.h.get (R s 40)) (D 48 JV Zl 4):=dR
theorem zTh:D 48 JV Zl 4 dn s=ZhW s (some 42) 4 Zl dn (Zi3 Tryz.prog 170 s.h.get (R s 5)) (D 48 JV Zl 5):=dR
theorem zTi:D 48 JV Zl 5 dn s=ZhW s (some 43) 5 Zl dn (lookup Tryz.prog s.h.get 79 (R s 41) (R s 42) true) (D 48 JV Zl 6):=dR
theorem zTj:D 48 JV Zl 6 dn s=ZhW s (some 37) 6 Zl dn (some {v:=R s 43}) (D 48 JV Zl 7):=dR
theorem zTk:D 48 JV Zl 7 dn s=ZhW s (some 44) 7 Zl dn (ZC6 (R s 37) 0) (D 48 JV Zl 8):=dR
theorem zTl:D 48 JV Zl 8 dn s=ZhW s (some 45) 8 Zl dn (ZC6 (R s 37) 1) (D 48 JV Zl 9):=dR
theorem zTm:D 48 JV Zl 9 dn s=ZhW s (some 6) 9 Zl dn (some {v:=R s 44}) (D 48 JV Zl 10):=dR
theorem zTd:D 48 JV Zl 10 dn s=ZhW s (some 7) 10 Zl dn (some {v:=R s 45}) (D 48 JV Zl 11):=dR
theorem zTe:D 48 JV Zl 11 dn s=some [(.normal,s)]:=qd
def zcM:Code:=ZgE zu9
def zva:Code:=ZhX zu9
theorem zTo:C 48 zu9 s=thenV (C 48 zcM s) (C 48 zva):=qS
theorem zTr:C 48 zcM s=O 48 zcM 0 s:=qG 3
theorem zTp:O 48 zcM 0 s=Zbb s (some 46) (some {v:=R s 7}) (O 48 zcM 1):=oR
theorem zTq:O 48 zcM 1 s=some [(.normal,s)]:=qe
def QO:Code:=ZgE zva
def Qp:Code:=ZhX zva
theorem zTs:C 48 zva s=ZmY (R s 46) (C 48 QO) (C 48 Qp) s:=qC
theorem zTz:C 48 QO s=O 48 QO 0 s:=qG 4
theorem zTt:O 48 QO 0 s=Zbb s (some 47) (some {v:=R s 0}) (O 48 QO 1):=oR
theorem zTu:O 48 QO 1 s=Zbb s (some 48) (some {v:=R s 1}) (O 48 QO 2):=oR
theorem zTv:O 48 QO 2 s=Zbb s (some 49) (some {v:=R s 6}) (O 48 QO 3):=oR
theorem zTw:O 48 QO 3 s=Zbb s (some 50) (val (build Tryz.prog 126 [(0,(R s 48)),(1,(R s 49)),(2,(.int .i64 (-1)))])) (O 48 QO 4):=oR
theorem zTx:O 48 QO 4 s=ZCo (some 51) s (ZCi Tryz.prog hs ks 49 [R s 47,R s 50] s.h) (O 48 QO 5):=cR
theorem zTy:O 48 QO 5 s=some [(.normal,s)]:=qe
def J8:List Nat:=[0,1,3,7,0,0,63]
theorem zTI:C 48 Qp s=D 48 Qp J8 0 [] s:=qD 5
theorem zTA:D 48 Qp J8 0 dn s=ZhW s (some 52) 0 J8 dn (some {v:=R s 0}) (D 48 Qp J8 1):=dR
theorem zTB:D 48 Qp J8 1 dn s=ZhW s (some 53) 1 J8 dn (ZCn Tryz.prog (R s 52)) (D 48 Qp J8 2):=dR
theorem zTC:D 48 Qp J8 2 dn s=ZhW s (some 54) 2 J8 dn (val (ZmN (R s 53) 5)) (D 48 Qp J8 3):=dR
theorem zTD:D 48 Qp J8 3 dn s=ZhW s (some 55) 3 J8 dn (Zi3 Tryz.prog 79 s.h.get (R s 54)) (D 48 Qp J8 4):=dR
theorem zTE:D 48 Qp J8 4 dn s=ZhW s (some 56) 4 J8 dn (Zi3 Tryz.prog 170 s.h.get (R s 5)) (D 48 Qp J8 5):=dR
theorem zTF:D 48 Qp J8 5 dn s=ZhW s (some 57) 5 J8 dn (some {v:=R s 1}) (D 48 Qp J8 6):=dR
theorem zTG:D 48 Qp J8 6 dn s=ZhW s none 6 J8 dn (mapUpdate Tryz.prog s.h.get 79 (R s 55) (R s 56) (R s 57)) (D 48 Qp J8 7):=dR
theorem zTH:D 48 Qp J8 7 dn s=some [(.normal,s)]:=qd
def k84:Code:=Tryz.f84.body.getD .skip
theorem zWv (args:List V) (ha:args.length≤47) (h:H):(EV Tryz.prog hs ks).call 84 args h=Zm1 Tryz.prog hs ks Tryz.f84 (C 84 k84 (S 47 (ZCl args 0 fun _=> ZmM) [] h)):=Qu Tryz.func84 (by kernel_rfl) (by kernel_rfl) (by decide) rfl ha h
theorem zL3 (f:Nat→V) (h:H):Zm1 Tryz.prog hs ks Tryz.f84 (some [(.normal,S 47 f [] h)])=ZCp (ZCk Tryz.prog (S 47 f [] h) []) h:=Zc (by kernel_rfl) (Or.inr rfl) _ _
def zc6:Code:=ZgE k84
def zv2:Code:=ZhX k84
theorem zL2:C 84 k84 s=thenV (C 84 zc6 s) (C 84 zv2):=qS
theorem zVn:C 84 zc6 s=O 84 zc6 0 s:=qG 0
theorem zVl:O 84 zc6 0 s=Zbb s (some 3) (some {v:=.ptr s.h.n 0,nw:=[.row 0 (V.cells (R s 1))]}) (O 84 zc6 1):=oR
theorem zVm:O 84 zc6 1 s=some [(.normal,s)]:=qe
def J6:Code:=ZgE zv2
def zx6:Code:=ZhX zv2
theorem zL0:C 84 zv2 s=thenV (C 84 J6 s) (C 84 zx6):=qS
def JQ:List Nat:=[0,1,0,4,0,0,35,111,255]
theorem zWl:C 84 J6 s=D 84 J6 JQ 0 [] s:=qD 1
theorem zWb:D 84 J6 JQ 0 dn s=ZhW s (some 9) 0 JQ dn (val (ZmN (R s 3) 0)) (D 84 J6 JQ 1):=dR
theorem zWc:D 84 J6 JQ 1 dn s=ZhW s (some 10) 1 JQ dn (Zi3 Tryz.prog 3 s.h.get (R s 9)) (D 84 J6 JQ 2):=dR
theorem zWd:D 84 J6 JQ 2 dn s=ZhW s (some 11) 2 JQ dn (val (ZmN (R s 3) 1)) (D 84 J6 JQ 3):=dR
theorem zWe:D 84 J6 JQ 3 dn s=ZhW s (some 12) 3 JQ dn (Zi3 Tryz.prog 3 s.h.get (R s 11)) (D 84 J6 JQ 4):=dR
theorem zWf:D 84 J6 JQ 4 dn s=ZhW s (some 13) 4 JQ dn (Zi3 Tryz.prog 126 s.h.get (R s 3)) (D 84 J6 JQ 5):=dR
theorem zWg:D 84 J6 JQ 5 dn s=ZhW s (some 6) 5 JQ dn (some {v:=.ptr s.h.n 0,nw:=[.row 0 [.int .i64 (0),.int .i64 (0),.int .i64 (0)]]}) (D 84 J6 JQ 6):=dR
theorem zWh:D 84 J6 JQ 6 dn s=ZhW s (some 4) 6 JQ dn (some {v:=R s 10}) (D 84 J6 JQ 7):=dR
theorem zWi:D 84 J6 JQ 7 dn s=ZhW s (some 5) 7 JQ dn (some {v:=R s 12}) (D 84 J6 JQ 8):=dR
theorem zWj:D 84 J6 JQ 8 dn s=ZhW s none 8 JQ dn (ZnB Tryz.prog 126 s.h.get (R s 6) (R s 13)) (D 84 J6 JQ 9):=dR
theorem zWk:D 84 J6 JQ 9 dn s=some [(.normal,s)]:=qd
def zkj:Code:=ZgE zx6
theorem zL1:C 84 zx6 s=ZmZ 0 (C 84 zkj s):=qB
def zv5:Code:=ZgE zkj
theorem zWm:C 84 zkj s=thenV (C 84 zv5 s) (C 84 zkj):=qL
def zv6:Code:=ZgE zv5
def zx7:Code:=ZhX zv5
theorem zWn:C 84 zv5 s=thenV (C 84 zv6 s) (C 84 zx7):=qS
def zbC:Code:=ZgE zv6
def zv7:Code:=ZhX zv6
theorem zWo:C 84 zv6 s=thenV (C 84 zbC s) (C 84 zv7):=qS
theorem zWt:C 84 zbC s=O 84 zbC 0 s:=qG 2
theorem zWq:O 84 zbC 0 s=Zbb s (some 14) (some {v:=R s 4}) (O 84 zbC 1):=oR
theorem zWr:O 84 zbC 1 s=Zbb s (some 15) (val (ZmJ Tryz.prog .geq 3 false true (R s 14) (.int .i64 (0)))) (O 84 zbC 2):=oR
theorem zWs:O 84 zbC 2 s=some [(.normal,s)]:=qe
def zCh:Code:=ZgE zv7
def zCi:Code:=ZhX zv7
theorem zWu:C 84 zv7 s=ZmY (R s 15) (C 84 zCh) (C 84 zCi) s:=qC
theorem zVo:C 84 zCh s=some [(.normal,s)]:=qK
theorem zVp:C 84 zCi s=some [(.exit 0,s)]:=qE
def zv3:Code:=ZgE zx7
theorem zWp:C 84 zx7 s=ZmZ 1 (C 84 zv3 s):=qB
def Ze:Code:=ZgE zv3
def zv4:Code:=ZhX zv3
theorem zVq:C 84 zv3 s=thenV (C 84 Ze s) (C 84 zv4):=qS
def zI:List Nat:=[0,1,3,7,0,31,63,0,128,384,896,0,3968,8064,0,16511,65535]
theorem zVJ:C 84 Ze s=D 84 Ze zI 0 [] s:=qD 3
theorem zVr:D 84 Ze zI 0 dn s=ZhW s (some 16) 0 zI dn (some {v:=R s 0}) (D 84 Ze zI 1):=dR
theorem zVs:D 84 Ze zI 1 dn s=ZhW s (some 17) 1 zI dn (ZCn Tryz.prog (R s 16)) (D 84 Ze zI 2):=dR
theorem zVB:D 84 Ze zI 2 dn s=ZhW s (some 18) 2 zI dn (val (ZmN (R s 17) 6)) (D 84 Ze zI 3):=dR
theorem zVC:D 84 Ze zI 3 dn s=ZhW s (some 19) 3 zI dn (Zi3 Tryz.prog 27 s.h.get (R s 18)) (D 84 Ze zI 4):=dR
theorem zVD:D 84 Ze zI 4 dn s=ZhW s (some 20) 4 zI dn (some {v:=R s 4}) (D 84 Ze zI 5):=dR
theorem zVE:D 84 Ze zI 5 dn s=ZhW s (some 21) 5 zI dn (val (indexAddr Tryz.prog 27 (R s 19) (R s 20))) (D 84 Ze zI 6):=dR
theorem zVF:D 84 Ze zI 6 dn s=ZhW s (some 22) 6 zI dn (Zi3 Tryz.prog 3 s.h.get (R s 21)) (D 84 Ze zI 7):=dR
theorem zVG:D 84 Ze zI 7 dn s=ZhW s (some 23) 7 zI dn (some {v:=R s 0}) (D 84 Ze zI 8):=dR
theorem zVH:D 84 Ze zI 8 dn s=ZhW s (some 24) 8 zI dn (ZCn Tryz.prog (R s 23)) (D 84 Ze zI 9):=dR
theorem zVI:D 84 Ze zI 9 dn s=ZhW s (some 25) 9 zI dn (val (ZmN (R s 24) 7)) (D 84 Ze zI 10):=dR
theorem zVt:D 84 Ze zI 10 dn s=ZhW s (some 26) 10 zI dn (Zi3 Tryz.prog 80 s.h.get (R s 25)) (D 84 Ze zI 11):=dR
theorem zVu:D 84 Ze zI 11 dn s=ZhW s (some 27) 11 zI dn (some {v:=R s 4}) (D 84 Ze zI 12):=dR
theorem zVv:D 84 Ze zI 12 dn s=ZhW s (some 28) 12 zI dn (val (indexAddr Tryz.prog 80 (R s 26) (R s 27))) (D 84 Ze zI 13):=dR
theorem zVw:D 84 Ze zI 13 dn s=ZhW s (some 29) 13 zI dn (Zi3 Tryz.prog 126 s.h.get (R s 28)) (D 84 Ze zI 14):=dR
theorem zVx:D 84 Ze zI 14 dn s=ZhW s (some 8) 14 zI dn (some {v:=.ptr s.h.n 0,nw:=[.row 0 [.int .i64 (0),.int .i64 (0),.int .i64 (0)]]}) (D 84 Ze zI 15):=dR
theorem zVy:D 84 Ze zI 15 dn s=ZhW s (some 7) 15 zI dn (some {v:=R s 22}) (D 84 Ze zI 16):=dR
theorem zVz:D 84 Ze zI 16 dn s=ZhW s none 16 zI dn (ZnB Tryz.prog 126 s.h.get (R s 8) (R s 29)) (D 84 Ze zI 17):=dR
theorem zVA:D 84 Ze zI 17 dn s=some [(.normal,s)]:=qd
def Zi:Code:=ZgE zv4
def QC:Code:=ZhX zv4
theorem zVK:C 84 zv4 s=thenV (C 84 Zi s) (C 84 QC):=qS
def zN:List Nat:=[0,1,3,7,0,0,32,96,224,0,0,0,1535,5631,16383,32767]
theorem zV2:C 84 Zi s=D 84 Zi zN 0 [] s:=qD 4
theorem zVL:D 84 Zi zN 0 dn s=ZhW s (some 30) 0 zN dn (some {v:=R s 0}) (D 84 Zi zN 1):=dR
theorem zVM:D 84 Zi zN 1 dn s=ZhW s (some 31) 1 zN dn (ZCn Tryz.prog (R s 30)) (D 84 Zi zN 2):=dR
theorem zVU:D 84 Zi zN 2 dn s=ZhW s (some 32) 2 zN dn (val (ZmN (R s 31) 6)) (D 84 Zi zN 3):=dR
theorem zVV:D 84 Zi zN 3 dn s=ZhW s (some 33) 3 zN dn (Zi3 Tryz.prog 27 s.h.get (R s 32)) (D 84 Zi zN 4):=dR
theorem zVW:D 84 Zi zN 4 dn s=ZhW s (some 34) 4 zN dn (some {v:=R s 4}) (D 84 Zi zN 5):=dR
theorem zVX:D 84 Zi zN 5 dn s=ZhW s (some 35) 5 zN dn (some {v:=R s 0}) (D 84 Zi zN 6):=dR
theorem zVY:D 84 Zi zN 6 dn s=ZhW s (some 36) 6 zN dn (ZCn Tryz.prog (R s 35)) (D 84 Zi zN 7):=dR
theorem zVZ:D 84 Zi zN 7 dn s=ZhW s (some 37) 7 zN dn (val (ZmN (R s 36) 7)) (D 84 Zi zN 8):=dR
theorem zV0:D 84 Zi zN 8 dn s=ZhW s (some 38) 8 zN dn (Zi3 Tryz.prog 80 s.h.get (R s 37)) (D 84 Zi zN 9):=dR
theorem zV1:D 84 Zi zN 9 dn s=ZhW s (some 39) 9 zN dn (some {v:=R s 4}) (D 84 Zi zN 10):=dR
theorem zVN:D 84 Zi zN 10 dn s=ZhW s (some 40) 10 zN dn (some {v:=R s 5}) (D 84 Zi zN 11):=dR
theorem zVO:D 84 Zi zN 11 dn s=ZhW s (some 41) 11 zN dn (Zi3 Tryz.prog 126 s.h.get (R s 6)) (D 84 Zi zN 12):=dR
theorem zVP:D 84 Zi zN 12 dn s=ZhW s (some 42) 12 zN dn (val (indexAddr Tryz.prog 27 (R s 33) (R s 34))) (D 84 Zi zN 13):=dR
theorem zVQ:D 84 Zi zN 13 dn s=ZhW s none 13 zN dn (ZnB Tryz.prog 3 s.h.get (R s 42) (R s 40)) (D 84 Zi zN 14):=dR
theorem zVR:D 84 Zi zN 14 dn s=ZhW s (some 43) 14 zN dn (val (indexAddr Tryz.prog 80 (R s 38) (R s 39))) (D 84 Zi zN 15):=dR
theorem zVS:D 84 Zi zN 15 dn s=ZhW s none 15 zN dn (ZnB Tryz.prog 126 s.h.get (R s 43) (R s 41)) (D 84 Zi zN 16):=dR
theorem zVT:D 84 Zi zN 16 dn s=some [(.normal,s)]:=qd
def Qs:List Nat:=[0,0,0,1,11,31]
theorem zWa:C 84 QC s=D 84 QC Qs 0 [] s:=qD 5
theorem zV3:D 84 QC Qs 0 dn s=ZhW s (some 44) 0 Qs dn (some {v:=R s 4}) (D 84 QC Qs 1):=dR
theorem zV4:D 84 QC Qs 1 dn s=ZhW s (some 45) 1 Qs dn (Zi3 Tryz.prog 126 s.h.get (R s 8)) (D 84 QC Qs 2):=dR
theorem zV5:D 84 QC Qs 2 dn s=ZhW s (some 46) 2 Qs dn (some {v:=R s 7}) (D 84 QC Qs 3):=dR
theorem zV6:D 84 QC Qs 3 dn s=ZhW s (some 5) 3 Qs dn (some {v:=R s 44}) (D 84 QC Qs 4):=dR
theorem zV7:D 84 QC Qs 4 dn s=ZhW s none 4 Qs dn (ZnB Tryz.prog 126 s.h.get (R s 6) (R s 45)) (D 84 QC Qs 5):=dR
theorem zV8:D 84 QC Qs 5 dn s=ZhW s (some 4) 5 Qs dn (some {v:=R s 46}) (D 84 QC Qs 6):=dR
theorem zV9:D 84 QC Qs 6 dn s=some [(.normal,s)]:=qd
end
section
variable (dn:List (Nat×Foot)) (s:St)
def k49:Code:=Tryz.f49.body.getD .skip
theorem zTN (args:List V) (ha:args.length≤224) (h:H):(EV Tryz.prog hs ks).call 49 args h=Zm1 Tryz.prog hs ks Tryz.f49 (C 49 k49 (S 224 (ZCl args 0 fun _=> ZmM) [] h)):=Qu Tryz.func49 (by kernel_rfl) (by kernel_rfl) (by decide) rfl ha h
theorem zc1 (f:Nat→V) (h:H):Zm1 Tryz.prog hs ks Tryz.f49 (some [(.normal,S 224 f [] h)])=ZCp (ZCk Tryz.prog (S 224 f [] h) []) h:=Zc (by kernel_rfl) (Or.inr rfl) _ _
def zcN:Code:=ZgE k49
def zvb:Code:=ZhX k49
theorem zc0:C 49 k49 s=thenV (C 49 zcN s) (C 49 zvb):=qS
theorem zdR:C 49 zcN s=O 49 zcN 0 s:=qG 0
theorem zdP:O 49 zcN 0 s=Zbb s (some 3) (some {v:=.ptr s.h.n 0,nw:=[.row 0 (V.cells (R s 1))]}) (O 49 zcN 1):=oR
theorem zdQ:O 49 zcN 1 s=some [(.normal,s)]:=qe
def zaJ:Code:=ZgE zvb
def zxX:Code:=ZhX zvb
theorem zcO:C 49 zvb s=thenV (C 49 zaJ s) (C 49 zxX):=qS
theorem ze4:C 49 zaJ s=O 49 zaJ 0 s:=qG 1
theorem ze0:O 49 zaJ 0 s=Zbb s (some 17) (Zi3 Tryz.prog 126 s.h.get (R s 3)) (O 49 zaJ 1):=oR
theorem ze1:O 49 zaJ 1 s=Zbb s (some 18) (ZDl Tryz.prog false 80 1 [(0,(R s 17))] s.h.n) (O 49 zaJ 2):=oR
theorem ze2:O 49 zaJ 2 s=Zbb s (some 4) (some {v:=R s 18}) (O 49 zaJ 3):=oR
theorem ze3:O 49 zaJ 3 s=some [(.normal,s)]:=qe
def zkf:Code:=ZgE zxX
theorem zbT:C 49 zxX s=ZmZ 0 (C 49 zkf s):=qB
def zvu:Code:=ZgE zkf
theorem zTM:C 49 zkf s=thenV (C 49 zvu s) (C 49 zkf):=qL
def zvz:Code:=ZgE zvu
def zx1:Code:=ZhX zvu
theorem zhc:C 49 zvu s=thenV (C 49 zvz s) (C 49 zx1):=qS
def zaP:Code:=ZgE zvz
def zvL:Code:=ZhX zvz
theorem zhr:C 49 zvz s=thenV (C 49 zaP s) (C 49 zvL):=qS
theorem zje:C 49 zaP s=O 49 zaP 0 s:=qG 2
theorem zja:O 49 zaP 0 s=Zbb s (some 19) (some {v:=R s 4}) (O 49 zaP 1):=oR
theorem zjb:O 49 zaP 1 s=Zbb s (some 20) (ZmL Tryz.prog false s.h.get s.h.n .len [80] [R s 19]) (O 49 zaP 2):=oR
theorem zjc:O 49 zaP 2 s=Zbb s (some 21) (val (ZmJ Tryz.prog .gtr 3 false true (R s 20) (.int .i64 (0)))) (O 49 zaP 3):=oR
theorem zjd:O 49 zaP 3 s=some [(.normal,s)]:=qe
def zB1:Code:=ZgE zvL
def zB2:Code:=ZhX zvL
theorem zjf:C 49 zvL s=ZmY (R s 21) (C 49 zB1) (C 49 zB2) s:=qC
theorem zdS:C 49 zB1 s=some [(.normal,s)]:=qK
theorem zdT:C 49 zB2 s=some [(.exit 0,s)]:=qE
def zvc:Code:=ZgE zx1
theorem ziv:C 49 zx1 s=ZmZ 1 (C 49 zvc s):=qB
def QP:Code:=ZgE zvc
def zvd:Code:=ZhX zvc
theorem zdU:C 49 zvc s=thenV (C 49 QP s) (C 49 zvd):=qS
theorem zd1:C 49 QP s=O 49 QP 0 s:=qG 3
theorem zdV:O 49 QP 0 s=Zbb s (some 22) (some {v:=R s 4}) (O 49 QP 1):=oR
theorem zdW:O 49 QP 1 s=Zbb s (some 23) (val (indexAddr Tryz.prog 80 (R s 22) (.int .i64 (0)))) (O 49 QP 2):=oR
theorem zdX:O 49 QP 2 s=Zbb s (some 24) (Zi3 Tryz.prog 126 s.h.get (R s 23)) (O 49 QP 3):=oR
theorem zdY:O 49 QP 3 s=Zbb s (some 5) (some {v:=.ptr s.h.n 0,nw:=[.row 0 [.int .i64 (0),.int .i64 (0),.int .i64 (0)]]}) (O 49 QP 4):=oR
theorem zdZ:O 49 QP 4 s=Zbb s none (ZnB Tryz.prog 126 s.h.get (R s 5) (R s 24)) (O 49 QP 5):=oR
theorem zd0:O 49 QP 5 s=some [(.normal,s)]:=qe
def zaI:Code:=ZgE zvd
def zve:Code:=ZhX zvd
theorem zd2:C 49 zvd s=thenV (C 49 zaI s) (C 49 zve):=qS
theorem zd7:C 49 zaI s=O 49 zaI 0 s:=qG 4
theorem zd3:O 49 zaI 0 s=Zbb s (some 25) (some {v:=R s 4}) (O 49 zaI 1):=oR
theorem zd4:O 49 zaI 1 s=Zbb s (some 26) (val (ZE4 Tryz.prog 80 (R s 25) (some (.int .i64 (1))) none none)) (O 49 zaI 2):=oR
theorem zd5:O 49 zaI 2 s=Zbb s (some 4) (some {v:=R s 26}) (O 49 zaI 3):=oR
theorem zd6:O 49 zaI 3 s=some [(.normal,s)]:=qe
def Za:Code:=ZgE zve
def zvf:Code:=ZhX zve
theorem zd8:C 49 zve s=thenV (C 49 Za s) (C 49 zvf):=qS
def zE:List Nat:=[0,1,3,7,0,16,63,127,0,256,768,1792,0,4096,16128,32512,255,131071]
theorem zes:C 49 Za s=D 49 Za zE 0 [] s:=qD 5
theorem zd9:D 49 Za zE 0 dn s=ZhW s (some 27) 0 zE dn (some {v:=R s 0}) (D 49 Za zE 1):=dR
theorem zea:D 49 Za zE 1 dn s=ZhW s (some 28) 1 zE dn (ZCn Tryz.prog (R s 27)) (D 49 Za zE 2):=dR
theorem zek:D 49 Za zE 2 dn s=ZhW s (some 29) 2 zE dn (val (ZmN (R s 28) 2)) (D 49 Za zE 3):=dR
theorem zel:D 49 Za zE 3 dn s=ZhW s (some 30) 3 zE dn (Zi3 Tryz.prog 27 s.h.get (R s 29)) (D 49 Za zE 4):=dR
theorem zem:D 49 Za zE 4 dn s=ZhW s (some 31) 4 zE dn (val (ZmN (R s 5) 0)) (D 49 Za zE 5):=dR
theorem zen:D 49 Za zE 5 dn s=ZhW s (some 32) 5 zE dn (Zi3 Tryz.prog 3 s.h.get (R s 31)) (D 49 Za zE 6):=dR
theorem zeo:D 49 Za zE 6 dn s=ZhW s (some 33) 6 zE dn (val (indexAddr Tryz.prog 27 (R s 30) (R s 32))) (D 49 Za zE 7):=dR
theorem zep:D 49 Za zE 7 dn s=ZhW s (some 34) 7 zE dn (Zi3 Tryz.prog 3 s.h.get (R s 33)) (D 49 Za zE 8):=dR
theorem zeq:D 49 Za zE 8 dn s=ZhW s (some 35) 8 zE dn (some {v:=R s 0}) (D 49 Za zE 9):=dR
theorem zer:D 49 Za zE 9 dn s=ZhW s (some 36) 9 zE dn (ZCn Tryz.prog (R s 35)) (D 49 Za zE 10):=dR
theorem zeb:D 49 Za zE 10 dn s=ZhW s (some 37) 10 zE dn (val (ZmN (R s 36) 2)) (D 49 Za zE 11):=dR
theorem zec:D 49 Za zE 11 dn s=ZhW s (some 38) 11 zE dn (Zi3 Tryz.prog 27 s.h.get (R s 37)) (D 49 Za zE 12):=dR
theorem zed:D 49 Za zE 12 dn s=ZhW s (some 39) 12 zE dn (val (ZmN (R s 5) 1)) (D 49 Za zE 13):=dR
theorem zee:D 49 Za zE 13 dn s=ZhW s (some 40) 13 zE dn (Zi3 Tryz.prog 3 s.h.get (R s 39)) (D 49 Za zE 14):=dR
theorem zef:D 49 Za zE 14 dn s=ZhW s (some 41) 14 zE dn (val (indexAddr Tryz.prog 27 (R s 38) (R s 40))) (D 49 Za zE 15):=dR
theorem zeg:D 49 Za zE 15 dn s=ZhW s (some 42) 15 zE dn (Zi3 Tryz.prog 3 s.h.get (R s 41)) (D 49 Za zE 16):=dR
theorem zeh:D 49 Za zE 16 dn s=ZhW s (some 6) 16 zE dn (some {v:=R s 34}) (D 49 Za zE 17):=dR
theorem zei:D 49 Za zE 17 dn s=ZhW s (some 7) 17 zE dn (some {v:=R s 42}) (D 49 Za zE 18):=dR
theorem zej:D 49 Za zE 18 dn s=some [(.normal,s)]:=qd
def zvg:Code:=ZgE zvf
def zvh:Code:=ZhX zvf
theorem zet:C 49 zvf s=thenV (C 49 zvg s) (C 49 zvh):=qS
def zaK:Code:=ZgE zvg
def zvi:Code:=ZhX zvg
theorem zeu:C 49 zvg s=thenV (C 49 zaK s) (C 49 zvi):=qS
theorem zeA:C 49 zaK s=O 49 zaK 0 s:=qG 6
theorem zew:O 49 zaK 0 s=Zbb s (some 43) (some {v:=R s 6}) (O 49 zaK 1):=oR
theorem zex:O 49 zaK 1 s=Zbb s (some 44) (some {v:=R s 7}) (O 49 zaK 2):=oR
theorem zey:O 49 zaK 2 s=Zbb s (some 45) (val (ZmJ Tryz.prog .eql 3 false false (R s 43) (R s 44))) (O 49 zaK 3):=oR
theorem zez:O 49 zaK 3 s=some [(.normal,s)]:=qe
def zB3:Code:=ZgE zvi
def zB4:Code:=ZhX zvi
theorem zeB:C 49 zvi s=ZmY (R s 45) (C 49 zB3) (C 49 zB4) s:=qC
theorem zeC:C 49 zB3 s=some [(.exit 1,s)]:=qE
theorem zeD:C 49 zB4 s=some [(.normal,s)]:=qK
def zvj:Code:=ZgE zvh
def zkd:Code:=ZhX zvh
theorem zev:C 49 zvh s=thenV (C 49 zvj s) (C 49 zkd):=qS
def Zd:Code:=ZgE zvj
def zvk:Code:=ZhX zvj
theorem zeE:C 49 zvj s=thenV (C 49 Zd s) (C 49 zvk):=qS
def zH:List Nat:=[0,1,3,7,0,31,63,127,0,256,768,1792,0,7936,16128,32512,65535]
theorem zeX:C 49 Zd s=D 49 Zd zH 0 [] s:=qD 7
theorem zeF:D 49 Zd zH 0 dn s=ZhW s (some 46) 0 zH dn (some {v:=R s 0}) (D 49 Zd zH 1):=dR
theorem zeG:D 49 Zd zH 1 dn s=ZhW s (some 47) 1 zH dn (ZCn Tryz.prog (R s 46)) (D 49 Zd zH 2):=dR
theorem zeP:D 49 Zd zH 2 dn s=ZhW s (some 48) 2 zH dn (val (ZmN (R s 47) 3)) (D 49 Zd zH 3):=dR
theorem zeQ:D 49 Zd zH 3 dn s=ZhW s (some 49) 3 zH dn (Zi3 Tryz.prog 78 s.h.get (R s 48)) (D 49 Zd zH 4):=dR
theorem zeR:D 49 Zd zH 4 dn s=ZhW s (some 50) 4 zH dn (some {v:=R s 6}) (D 49 Zd zH 5):=dR
theorem zeS:D 49 Zd zH 5 dn s=ZhW s (some 51) 5 zH dn (val (indexAddr Tryz.prog 78 (R s 49) (R s 50))) (D 49 Zd zH 6):=dR
theorem zeT:D 49 Zd zH 6 dn s=ZhW s (some 52) 6 zH dn (Zi3 Tryz.prog 27 s.h.get (R s 51)) (D 49 Zd zH 7):=dR
theorem zeU:D 49 Zd zH 7 dn s=ZhW s (some 53) 7 zH dn (ZmL Tryz.prog false s.h.get s.h.n .len [27] [R s 52]) (D 49 Zd zH 8):=dR
theorem zeV:D 49 Zd zH 8 dn s=ZhW s (some 54) 8 zH dn (some {v:=R s 0}) (D 49 Zd zH 9):=dR
theorem zeW:D 49 Zd zH 9 dn s=ZhW s (some 55) 9 zH dn (ZCn Tryz.prog (R s 54)) (D 49 Zd zH 10):=dR
theorem zeH:D 49 Zd zH 10 dn s=ZhW s (some 56) 10 zH dn (val (ZmN (R s 55) 3)) (D 49 Zd zH 11):=dR
theorem zeI:D 49 Zd zH 11 dn s=ZhW s (some 57) 11 zH dn (Zi3 Tryz.prog 78 s.h.get (R s 56)) (D 49 Zd zH 12):=dR
theorem zeJ:D 49 Zd zH 12 dn s=ZhW s (some 58) 12 zH dn (some {v:=R s 7}) (D 49 Zd zH 13):=dR
theorem zeK:D 49 Zd zH 13 dn s=ZhW s (some 59) 13 zH dn (val (indexAddr Tryz.prog 78 (R s 57) (R s 58))) (D 49 Zd zH 14):=dR
theorem zeL:D 49 Zd zH 14 dn s=ZhW s (some 60) 14 zH dn (Zi3 Tryz.prog 27 s.h.get (R s 59)) (D 49 Zd zH 15):=dR
theorem zeM:D 49 Zd zH 15 dn s=ZhW s (some 61) 15 zH dn (ZmL Tryz.prog false s.h.get s.h.n .len [27] [R s 60]) (D 49 Zd zH 16):=dR
theorem zeN:D 49 Zd zH 16 dn s=ZhW s (some 62) 16 zH dn (val (ZmJ Tryz.prog .gtr 3 false false (R s 53) (R s 61))) (D 49 Zd zH 17):=dR
theorem zeO:D 49 Zd zH 17 dn s=some [(.normal,s)]:=qd
def zvl:Code:=ZgE zvk
def zB5:Code:=ZhX zvk
theorem zeY:C 49 zvk s=ZmY (R s 62) (C 49 zvl) (C 49 zB5) s:=qC
def Q8:Code:=ZgE zvl
def Qh:Code:=ZhX zvl
theorem zeZ:C 49 zvl s=thenV (C 49 Q8 s) (C 49 Qh):=qS
theorem zfb:C 49 Q8 s=O 49 Q8 0 s:=qG 8
theorem ze6:O 49 Q8 0 s=Zbb s (some 63) (some {v:=R s 7}) (O 49 Q8 1):=oR
theorem ze7:O 49 Q8 1 s=Zbb s (some 64) (some {v:=R s 6}) (O 49 Q8 2):=oR
theorem ze8:O 49 Q8 2 s=Zbb s (some 6) (some {v:=R s 63}) (O 49 Q8 3):=oR
theorem ze9:O 49 Q8 3 s=Zbb s (some 7) (some {v:=R s 64}) (O 49 Q8 4):=oR
theorem zfa:O 49 Q8 4 s=some [(.normal,s)]:=qe
theorem zfl:C 49 Qh s=O 49 Qh 0 s:=qG 9
theorem zfc:O 49 Qh 0 s=Zbb s (some 65) (val (ZmN (R s 5) 1)) (O 49 Qh 1):=oR
theorem zfd:O 49 Qh 1 s=Zbb s (some 66) (Zi3 Tryz.prog 3 s.h.get (R s 65)) (O 49 Qh 2):=oR
theorem zfe:O 49 Qh 2 s=Zbb s (some 67) (val (ZmN (R s 5) 0)) (O 49 Qh 3):=oR
theorem zff:O 49 Qh 3 s=Zbb s (some 68) (Zi3 Tryz.prog 3 s.h.get (R s 67)) (O 49 Qh 4):=oR
theorem zfg:O 49 Qh 4 s=Zbb s (some 69) (val (ZmN (R s 5) 0)) (O 49 Qh 5):=oR
theorem zfh:O 49 Qh 5 s=Zbb s none (ZnB Tryz.prog 3 s.h.get (R s 69) (R s 66)) (O 49 Qh 6):=oR
theorem zfi:O 49 Qh 6 s=Zbb s (some 70) (val (ZmN (R s 5) 1)) (O 49 Qh 7):=oR
theorem zfj:O 49 Qh 7 s=Zbb s none (ZnB Tryz.prog 3 s.h.get (R s 70) (R s 68)) (O 49 Qh 8):=oR
theorem zfk:O 49 Qh 8 s=some [(.normal,s)]:=qe
theorem ze5:C 49 zB5 s=some [(.normal,s)]:=qK
def zaL:Code:=ZgE zkd
def zvm:Code:=ZhX zkd
theorem zbz:C 49 zkd s=thenV (C 49 zaL s) (C 49 zvm):=qS
theorem zfq:C 49 zaL s=O 49 zaL 0 s:=qG 10
theorem zfm:O 49 zaL 0 s=Zbb s (some 71) (some {v:=R s 0}) (O 49 zaL 1):=oR
theorem zfn:O 49 zaL 1 s=Zbb s (some 72) (Zi3 Tryz.prog 126 s.h.get (R s 5)) (O 49 zaL 2):=oR
theorem zfo:O 49 zaL 2 s=ZCo (some 73) s (ZCi Tryz.prog hs ks 84 [R s 71,R s 72] s.h) (O 49 zaL 3):=cR
theorem zfp:O 49 zaL 3 s=some [(.normal,s)]:=qe
def zvn:Code:=ZgE zvm
def zvo:Code:=ZhX zvm
theorem zcP:C 49 zvm s=thenV (C 49 zvn s) (C 49 zvo):=qS
def J5:Code:=ZgE zvn
def zxY:Code:=ZhX zvn
theorem zcQ:C 49 zvn s=thenV (C 49 J5 s) (C 49 zxY):=qS
theorem zfB:C 49 J5 s=O 49 J5 0 s:=qG 11
theorem zfr:O 49 J5 0 s=Zbb s (some 74) (some {v:=R s 0}) (O 49 J5 1):=oR
theorem zfs:O 49 J5 1 s=Zbb s (some 75) (ZCn Tryz.prog (R s 74)) (O 49 J5 2):=oR
theorem zft:O 49 J5 2 s=Zbb s (some 76) (val (ZmN (R s 75) 3)) (O 49 J5 3):=oR
theorem zfu:O 49 J5 3 s=Zbb s (some 77) (Zi3 Tryz.prog 78 s.h.get (R s 76)) (O 49 J5 4):=oR
theorem zfv:O 49 J5 4 s=Zbb s (some 78) (some {v:=R s 6}) (O 49 J5 5):=oR
theorem zfw:O 49 J5 5 s=Zbb s (some 79) (val (indexAddr Tryz.prog 78 (R s 77) (R s 78))) (O 49 J5 6):=oR
theorem zfx:O 49 J5 6 s=Zbb s (some 80) (Zi3 Tryz.prog 27 s.h.get (R s 79)) (O 49 J5 7):=oR
theorem zfy:O 49 J5 7 s=Zbb s (some 81) (ZmL Tryz.prog false s.h.get s.h.n .len [27] [R s 80]) (O 49 J5 8):=oR
theorem zfz:O 49 J5 8 s=Zbb s (some 82) (some {v:=(.int .i64 (0))}) (O 49 J5 9):=oR
theorem zfA:O 49 J5 9 s=some [(.normal,s)]:=qe
def zke:Code:=ZgE zxY
theorem zcS:C 49 zxY s=ZmZ 2 (C 49 zke s):=qB
def zvp:Code:=ZgE zke
theorem zLH:C 49 zke s=thenV (C 49 zvp s) (C 49 zke):=qL
def zcT:Code:=ZgE zvp
def zvq:Code:=ZhX zvp
theorem zfC:C 49 zvp s=thenV (C 49 zcT s) (C 49 zvq):=qS
theorem zfF:C 49 zcT s=O 49 zcT 0 s:=qG 12
theorem zfD:O 49 zcT 0 s=Zbb s (some 83) (val (ZmJ Tryz.prog .lss 3 false false (R s 82) (R s 81))) (O 49 zcT 1):=oR
theorem zfE:O 49 zcT 1 s=some [(.normal,s)]:=qe
def zvr:Code:=ZgE zvq
def zvs:Code:=ZhX zvq
theorem zfG:C 49 zvq s=thenV (C 49 zvr s) (C 49 zvs):=qS
def zB6:Code:=ZgE zvr
def zB7:Code:=ZhX zvr
theorem zfH:C 49 zvr s=ZmY (R s 83) (C 49 zB6) (C 49 zB7) s:=qC
theorem zfJ:C 49 zB6 s=some [(.normal,s)]:=qK
theorem zfK:C 49 zB7 s=some [(.exit 2,s)]:=qE
def zxZ:Code:=ZgE zvs
def zbA:Code:=ZhX zvs
theorem zfI:C 49 zvs s=thenV (C 49 zxZ s) (C 49 zbA):=qS
def zvt:Code:=ZgE zxZ
theorem zfL:C 49 zxZ s=ZmZ 3 (C 49 zvt s):=qB
def zaM:Code:=ZgE zvt
def Qi:Code:=ZhX zvt
theorem zfQ:C 49 zvt s=thenV (C 49 zaM s) (C 49 Qi):=qS
theorem zfV:C 49 zaM s=O 49 zaM 0 s:=qG 13
theorem zfR:O 49 zaM 0 s=Zbb s (some 84) (val (indexAddr Tryz.prog 27 (R s 80) (R s 82))) (O 49 zaM 1):=oR
theorem zfS:O 49 zaM 1 s=Zbb s (some 85) (Zi3 Tryz.prog 3 s.h.get (R s 84)) (O 49 zaM 2):=oR
theorem zfT:O 49 zaM 2 s=Zbb s (some 9) (some {v:=R s 85}) (O 49 zaM 3):=oR
theorem zfU:O 49 zaM 3 s=some [(.normal,s)]:=qe
theorem zf5:C 49 Qi s=O 49 Qi 0 s:=qG 14
theorem zfW:O 49 Qi 0 s=Zbb s (some 86) (some {v:=R s 0}) (O 49 Qi 1):=oR
theorem zfX:O 49 Qi 1 s=Zbb s (some 87) (ZCn Tryz.prog (R s 86)) (O 49 Qi 2):=oR
theorem zfY:O 49 Qi 2 s=Zbb s (some 88) (val (ZmN (R s 87) 2)) (O 49 Qi 3):=oR
theorem zfZ:O 49 Qi 3 s=Zbb s (some 89) (Zi3 Tryz.prog 27 s.h.get (R s 88)) (O 49 Qi 4):=oR
theorem zf0:O 49 Qi 4 s=Zbb s (some 90) (some {v:=R s 9}) (O 49 Qi 5):=oR
theorem zf1:O 49 Qi 5 s=Zbb s (some 91) (some {v:=R s 7}) (O 49 Qi 6):=oR
theorem zf2:O 49 Qi 6 s=Zbb s (some 92) (val (indexAddr Tryz.prog 27 (R s 89) (R s 90))) (O 49 Qi 7):=oR
theorem zf3:O 49 Qi 7 s=Zbb s none (ZnB Tryz.prog 3 s.h.get (R s 92) (R s 91)) (O 49 Qi 8):=oR
theorem zf4:O 49 Qi 8 s=some [(.normal,s)]:=qe
theorem zfP:C 49 zbA s=O 49 zbA 0 s:=qG 15
theorem zfM:O 49 zbA 0 s=Zbb s (some 93) (val (ZmJ Tryz.prog .add 3 false true (R s 82) (.int .i64 (1)))) (O 49 zbA 1):=oR
theorem zfN:O 49 zbA 1 s=Zbb s (some 82) (some {v:=R s 93}) (O 49 zbA 2):=oR
theorem zfO:O 49 zbA 2 s=some [(.normal,s)]:=qe
def zJ:Code:=ZgE zvo
def zvv:Code:=ZhX zvo
theorem zcR:C 49 zvo s=thenV (C 49 zJ s) (C 49 zvv):=qS
def zm:List Nat:=[0,1,3,7,0,0,32,96,224,0,992,2016,0,4096,12288,28672,0,126976,258048,524256,1048575,2097151]
theorem zgt:C 49 zJ s=D 49 zJ zm 0 [] s:=qD 16
theorem zf6:D 49 zJ zm 0 dn s=ZhW s (some 94) 0 zm dn (some {v:=R s 0}) (D 49 zJ zm 1):=dR
theorem zf7:D 49 zJ zm 1 dn s=ZhW s (some 95) 1 zm dn (ZCn Tryz.prog (R s 94)) (D 49 zJ zm 2):=dR
theorem zgi:D 49 zJ zm 2 dn s=ZhW s (some 96) 2 zm dn (val (ZmN (R s 95) 3)) (D 49 zJ zm 3):=dR
theorem zgm:D 49 zJ zm 3 dn s=ZhW s (some 97) 3 zm dn (Zi3 Tryz.prog 78 s.h.get (R s 96)) (D 49 zJ zm 4):=dR
theorem zgn:D 49 zJ zm 4 dn s=ZhW s (some 98) 4 zm dn (some {v:=R s 7}) (D 49 zJ zm 5):=dR
theorem zgo:D 49 zJ zm 5 dn s=ZhW s (some 99) 5 zm dn (some {v:=R s 0}) (D 49 zJ zm 6):=dR
theorem zgp:D 49 zJ zm 6 dn s=ZhW s (some 100) 6 zm dn (ZCn Tryz.prog (R s 99)) (D 49 zJ zm 7):=dR
theorem zgq:D 49 zJ zm 7 dn s=ZhW s (some 101) 7 zm dn (val (ZmN (R s 100) 3)) (D 49 zJ zm 8):=dR
theorem zgr:D 49 zJ zm 8 dn s=ZhW s (some 102) 8 zm dn (Zi3 Tryz.prog 78 s.h.get (R s 101)) (D 49 zJ zm 9):=dR
theorem zgs:D 49 zJ zm 9 dn s=ZhW s (some 103) 9 zm dn (some {v:=R s 7}) (D 49 zJ zm 10):=dR
theorem zf8:D 49 zJ zm 10 dn s=ZhW s (some 104) 10 zm dn (val (indexAddr Tryz.prog 78 (R s 102) (R s 103))) (D 49 zJ zm 11):=dR
theorem zf9:D 49 zJ zm 11 dn s=ZhW s (some 105) 11 zm dn (Zi3 Tryz.prog 27 s.h.get (R s 104)) (D 49 zJ zm 12):=dR
theorem zga:D 49 zJ zm 12 dn s=ZhW s (some 106) 12 zm dn (some {v:=R s 0}) (D 49 zJ zm 13):=dR
theorem zgb:D 49 zJ zm 13 dn s=ZhW s (some 107) 13 zm dn (ZCn Tryz.prog (R s 106)) (D 49 zJ zm 14):=dR
theorem zgc:D 49 zJ zm 14 dn s=ZhW s (some 108) 14 zm dn (val (ZmN (R s 107) 3)) (D 49 zJ zm 15):=dR
theorem zgd:D 49 zJ zm 15 dn s=ZhW s (some 109) 15 zm dn (Zi3 Tryz.prog 78 s.h.get (R s 108)) (D 49 zJ zm 16):=dR
theorem zge:D 49 zJ zm 16 dn s=ZhW s (some 110) 16 zm dn (some {v:=R s 6}) (D 49 zJ zm 17):=dR
theorem zgf:D 49 zJ zm 17 dn s=ZhW s (some 111) 17 zm dn (val (indexAddr Tryz.prog 78 (R s 109) (R s 110))) (D 49 zJ zm 18):=dR
theorem zgg:D 49 zJ zm 18 dn s=ZhW s (some 112) 18 zm dn (Zi3 Tryz.prog 27 s.h.get (R s 111)) (D 49 zJ zm 19):=dR
theorem zgh:D 49 zJ zm 19 dn s=ZhW s (some 113) 19 zm dn (ZmL Tryz.prog false s.h.get s.h.n .append [27,27] [R s 105,R s 112]) (D 49 zJ zm 20):=dR
theorem zgj:D 49 zJ zm 20 dn s=ZhW s (some 114) 20 zm dn (val (indexAddr Tryz.prog 78 (R s 97) (R s 98))) (D 49 zJ zm 21):=dR
theorem zgk:D 49 zJ zm 21 dn s=ZhW s none 21 zm dn (ZnB Tryz.prog 27 s.h.get (R s 114) (R s 113)) (D 49 zJ zm 22):=dR
theorem zgl:D 49 zJ zm 22 dn s=some [(.normal,s)]:=qd
def J9:Code:=ZgE zvv
def zvw:Code:=ZhX zvv
theorem zcU:C 49 zvv s=thenV (C 49 J9 s) (C 49 zvw):=qS
theorem zgD:C 49 J9 s=O 49 J9 0 s:=qG 17
theorem zgu:O 49 J9 0 s=Zbb s (some 115) (some {v:=R s 0}) (O 49 J9 1):=oR
theorem zgv:O 49 J9 1 s=Zbb s (some 116) (ZCn Tryz.prog (R s 115)) (O 49 J9 2):=oR
theorem zgw:O 49 J9 2 s=Zbb s (some 117) (val (ZmN (R s 116) 4)) (O 49 J9 3):=oR
theorem zgx:O 49 J9 3 s=Zbb s (some 118) (Zi3 Tryz.prog 78 s.h.get (R s 117)) (O 49 J9 4):=oR
theorem zgy:O 49 J9 4 s=Zbb s (some 119) (some {v:=R s 6}) (O 49 J9 5):=oR
theorem zgz:O 49 J9 5 s=Zbb s (some 120) (val (indexAddr Tryz.prog 78 (R s 118) (R s 119))) (O 49 J9 6):=oR
theorem zgA:O 49 J9 6 s=Zbb s (some 121) (Zi3 Tryz.prog 27 s.h.get (R s 120)) (O 49 J9 7):=oR
theorem zgB:O 49 J9 7 s=Zbb s (some 10) (some {v:=R s 121}) (O 49 J9 8):=oR
theorem zgC:O 49 J9 8 s=some [(.normal,s)]:=qe
def Zm:Code:=ZgE zvw
def zvx:Code:=ZhX zvw
theorem zcV:C 49 zvw s=thenV (C 49 Zm s) (C 49 zvx):=qS
def zU:List Nat:=[0,1,3,7,0,0,32,96,224,0,511,1535,4095,8191]
theorem zgT:C 49 Zm s=D 49 Zm zU 0 [] s:=qD 18
theorem zgE:D 49 Zm zU 0 dn s=ZhW s (some 122) 0 zU dn (some {v:=R s 0}) (D 49 Zm zU 1):=dR
theorem zgF:D 49 Zm zU 1 dn s=ZhW s (some 123) 1 zU dn (ZCn Tryz.prog (R s 122)) (D 49 Zm zU 2):=dR
theorem zgL:D 49 Zm zU 2 dn s=ZhW s (some 124) 2 zU dn (val (ZmN (R s 123) 3)) (D 49 Zm zU 3):=dR
theorem zgM:D 49 Zm zU 3 dn s=ZhW s (some 125) 3 zU dn (Zi3 Tryz.prog 78 s.h.get (R s 124)) (D 49 Zm zU 4):=dR
theorem zgN:D 49 Zm zU 4 dn s=ZhW s (some 126) 4 zU dn (some {v:=R s 6}) (D 49 Zm zU 5):=dR
theorem zgO:D 49 Zm zU 5 dn s=ZhW s (some 127) 5 zU dn (some {v:=R s 0}) (D 49 Zm zU 6):=dR
theorem zgP:D 49 Zm zU 6 dn s=ZhW s (some 128) 6 zU dn (ZCn Tryz.prog (R s 127)) (D 49 Zm zU 7):=dR
theorem zgQ:D 49 Zm zU 7 dn s=ZhW s (some 129) 7 zU dn (val (ZmN (R s 128) 4)) (D 49 Zm zU 8):=dR
theorem zgR:D 49 Zm zU 8 dn s=ZhW s (some 130) 8 zU dn (Zi3 Tryz.prog 78 s.h.get (R s 129)) (D 49 Zm zU 9):=dR
theorem zgS:D 49 Zm zU 9 dn s=ZhW s (some 131) 9 zU dn (some {v:=R s 6}) (D 49 Zm zU 10):=dR
theorem zgG:D 49 Zm zU 10 dn s=ZhW s (some 132) 10 zU dn (val (indexAddr Tryz.prog 78 (R s 125) (R s 126))) (D 49 Zm zU 11):=dR
theorem zgH:D 49 Zm zU 11 dn s=ZhW s none 11 zU dn (ZnB Tryz.prog 27 s.h.get (R s 132) (.nils)) (D 49 Zm zU 12):=dR
theorem zgI:D 49 Zm zU 12 dn s=ZhW s (some 133) 12 zU dn (val (indexAddr Tryz.prog 78 (R s 130) (R s 131))) (D 49 Zm zU 13):=dR
theorem zgJ:D 49 Zm zU 13 dn s=ZhW s none 13 zU dn (ZnB Tryz.prog 27 s.h.get (R s 133) (.nils)) (D 49 Zm zU 14):=dR
theorem zgK:D 49 Zm zU 14 dn s=some [(.normal,s)]:=qd
def Zf:Code:=ZgE zvx
def zvy:Code:=ZhX zvx
theorem zcW:C 49 zvx s=thenV (C 49 Zf s) (C 49 zvy):=qS
def zM:List Nat:=[0,1,3,7,0,0,32,96,224,0,992,2016,0,8160,16383,32767]
theorem zhb:C 49 Zf s=D 49 Zf zM 0 [] s:=qD 19
theorem zgU:D 49 Zf zM 0 dn s=ZhW s (some 134) 0 zM dn (some {v:=R s 0}) (D 49 Zf zM 1):=dR
theorem zgV:D 49 Zf zM 1 dn s=ZhW s (some 135) 1 zM dn (ZCn Tryz.prog (R s 134)) (D 49 Zf zM 2):=dR
theorem zg3:D 49 Zf zM 2 dn s=ZhW s (some 136) 2 zM dn (val (ZmN (R s 135) 4)) (D 49 Zf zM 3):=dR
theorem zg4:D 49 Zf zM 3 dn s=ZhW s (some 137) 3 zM dn (Zi3 Tryz.prog 78 s.h.get (R s 136)) (D 49 Zf zM 4):=dR
theorem zg5:D 49 Zf zM 4 dn s=ZhW s (some 138) 4 zM dn (some {v:=R s 7}) (D 49 Zf zM 5):=dR
theorem zg6:D 49 Zf zM 5 dn s=ZhW s (some 139) 5 zM dn (some {v:=R s 0}) (D 49 Zf zM 6):=dR
theorem zg7:D 49 Zf zM 6 dn s=ZhW s (some 140) 6 zM dn (ZCn Tryz.prog (R s 139)) (D 49 Zf zM 7):=dR
theorem zg8:D 49 Zf zM 7 dn s=ZhW s (some 141) 7 zM dn (val (ZmN (R s 140) 4)) (D 49 Zf zM 8):=dR
theorem zg9:D 49 Zf zM 8 dn s=ZhW s (some 142) 8 zM dn (Zi3 Tryz.prog 78 s.h.get (R s 141)) (D 49 Zf zM 9):=dR
theorem zha:D 49 Zf zM 9 dn s=ZhW s (some 143) 9 zM dn (some {v:=R s 7}) (D 49 Zf zM 10):=dR
theorem zgW:D 49 Zf zM 10 dn s=ZhW s (some 144) 10 zM dn (val (indexAddr Tryz.prog 78 (R s 142) (R s 143))) (D 49 Zf zM 11):=dR
theorem zgX:D 49 Zf zM 11 dn s=ZhW s (some 145) 11 zM dn (Zi3 Tryz.prog 27 s.h.get (R s 144)) (D 49 Zf zM 12):=dR
theorem zgY:D 49 Zf zM 12 dn s=ZhW s (some 146) 12 zM dn (some {v:=R s 10}) (D 49 Zf zM 13):=dR
theorem zgZ:D 49 Zf zM 13 dn s=ZhW s (some 147) 13 zM dn (ZmL Tryz.prog false s.h.get s.h.n .append [27,27] [R s 145,R s 146]) (D 49 Zf zM 14):=dR
theorem zg0:D 49 Zf zM 14 dn s=ZhW s (some 148) 14 zM dn (val (indexAddr Tryz.prog 78 (R s 137) (R s 138))) (D 49 Zf zM 15):=dR
theorem zg1:D 49 Zf zM 15 dn s=ZhW s none 15 zM dn (ZnB Tryz.prog 27 s.h.get (R s 148) (R s 147)) (D 49 Zf zM 16):=dR
theorem zg2:D 49 Zf zM 16 dn s=some [(.normal,s)]:=qd
def zaN:Code:=ZgE zvy
def zx0:Code:=ZhX zvy
theorem zcX:C 49 zvy s=thenV (C 49 zaN s) (C 49 zx0):=qS
theorem zhh:C 49 zaN s=O 49 zaN 0 s:=qG 20
theorem zhd:O 49 zaN 0 s=Zbb s (some 149) (some {v:=R s 10}) (O 49 zaN 1):=oR
theorem zhe:O 49 zaN 1 s=Zbb s (some 150) (ZmL Tryz.prog false s.h.get s.h.n .len [27] [R s 149]) (O 49 zaN 2):=oR
theorem zhf:O 49 zaN 2 s=Zbb s (some 151) (some {v:=(.int .i64 (0))}) (O 49 zaN 3):=oR
theorem zhg:O 49 zaN 3 s=some [(.normal,s)]:=qe
def zkg:Code:=ZgE zx0
theorem zcY:C 49 zx0 s=ZmZ 4 (C 49 zkg s):=qB
def zvB:Code:=ZgE zkg
theorem zvA:C 49 zkg s=thenV (C 49 zvB s) (C 49 zkg):=qL
def zcZ:Code:=ZgE zvB
def zvC:Code:=ZhX zvB
theorem zhi:C 49 zvB s=thenV (C 49 zcZ s) (C 49 zvC):=qS
theorem zhl:C 49 zcZ s=O 49 zcZ 0 s:=qG 21
theorem zhj:O 49 zcZ 0 s=Zbb s (some 152) (val (ZmJ Tryz.prog .lss 3 false false (R s 151) (R s 150))) (O 49 zcZ 1):=oR
theorem zhk:O 49 zcZ 1 s=some [(.normal,s)]:=qe
def zvD:Code:=ZgE zvC
def zvE:Code:=ZhX zvC
theorem zhm:C 49 zvC s=thenV (C 49 zvD s) (C 49 zvE):=qS
def zB8:Code:=ZgE zvD
def zB9:Code:=ZhX zvD
theorem zhn:C 49 zvD s=ZmY (R s 152) (C 49 zB8) (C 49 zB9) s:=qC
theorem zhp:C 49 zB8 s=some [(.normal,s)]:=qK
theorem zhq:C 49 zB9 s=some [(.exit 4,s)]:=qE
def zx2:Code:=ZgE zvE
def zbB:Code:=ZhX zvE
theorem zho:C 49 zvE s=thenV (C 49 zx2 s) (C 49 zbB):=qS
def zvF:Code:=ZgE zx2
theorem zhs:C 49 zx2 s=ZmZ 5 (C 49 zvF s):=qB
def zaO:Code:=ZgE zvF
def zvG:Code:=ZhX zvF
theorem zhx:C 49 zvF s=thenV (C 49 zaO s) (C 49 zvG):=qS
theorem zhC:C 49 zaO s=O 49 zaO 0 s:=qG 22
theorem zhy:O 49 zaO 0 s=Zbb s (some 153) (val (indexAddr Tryz.prog 27 (R s 149) (R s 151))) (O 49 zaO 1):=oR
theorem zhz:O 49 zaO 1 s=Zbb s (some 154) (Zi3 Tryz.prog 3 s.h.get (R s 153)) (O 49 zaO 2):=oR
theorem zhA:O 49 zaO 2 s=Zbb s (some 12) (some {v:=R s 154}) (O 49 zaO 3):=oR
theorem zhB:O 49 zaO 3 s=some [(.normal,s)]:=qe
def Zs:Code:=ZgE zvG
def zvH:Code:=ZhX zvG
theorem zhD:C 49 zvG s=thenV (C 49 Zs s) (C 49 zvH):=qS
def zV:List Nat:=[0,1,3,7,0,0,32,96,224,496,1023,2047,0,8191]
theorem zhT:C 49 Zs s=D 49 Zs zV 0 [] s:=qD 23
theorem zhE:D 49 Zs zV 0 dn s=ZhW s (some 155) 0 zV dn (some {v:=R s 0}) (D 49 Zs zV 1):=dR
theorem zhF:D 49 Zs zV 1 dn s=ZhW s (some 156) 1 zV dn (ZCn Tryz.prog (R s 155)) (D 49 Zs zV 2):=dR
theorem zhL:D 49 Zs zV 2 dn s=ZhW s (some 157) 2 zV dn (val (ZmN (R s 156) 1)) (D 49 Zs zV 3):=dR
theorem zhM:D 49 Zs zV 3 dn s=ZhW s (some 158) 3 zV dn (Zi3 Tryz.prog 22 s.h.get (R s 157)) (D 49 Zs zV 4):=dR
theorem zhN:D 49 Zs zV 4 dn s=ZhW s (some 159) 4 zV dn (some {v:=R s 12}) (D 49 Zs zV 5):=dR
theorem zhO:D 49 Zs zV 5 dn s=ZhW s (some 160) 5 zV dn (some {v:=R s 0}) (D 49 Zs zV 6):=dR
theorem zhP:D 49 Zs zV 6 dn s=ZhW s (some 161) 6 zV dn (ZCn Tryz.prog (R s 160)) (D 49 Zs zV 7):=dR
theorem zhQ:D 49 Zs zV 7 dn s=ZhW s (some 162) 7 zV dn (val (ZmN (R s 161) 0)) (D 49 Zs zV 8):=dR
theorem zhR:D 49 Zs zV 8 dn s=ZhW s (some 163) 8 zV dn (Zi3 Tryz.prog 3 s.h.get (R s 162)) (D 49 Zs zV 9):=dR
theorem zhS:D 49 Zs zV 9 dn s=ZhW s (some 164) 9 zV dn (val (ZmJ Tryz.prog .sub 3 false false (R s 159) (R s 163))) (D 49 Zs zV 10):=dR
theorem zhG:D 49 Zs zV 10 dn s=ZhW s (some 165) 10 zV dn (val (indexAddr Tryz.prog 22 (R s 158) (R s 164))) (D 49 Zs zV 11):=dR
theorem zhH:D 49 Zs zV 11 dn s=ZhW s (some 166) 11 zV dn (Zi3 Tryz.prog 42 s.h.get (R s 165)) (D 49 Zs zV 12):=dR
theorem zhI:D 49 Zs zV 12 dn s=ZhW s (some 13) 12 zV dn (some {v:=.ptr s.h.n 0,nw:=[.row 0 [.int .i64 (0),.int .i64 (0)]]}) (D 49 Zs zV 13):=dR
theorem zhJ:D 49 Zs zV 13 dn s=ZhW s none 13 zV dn (ZnB Tryz.prog 42 s.h.get (R s 13) (R s 166)) (D 49 Zs zV 14):=dR
theorem zhK:D 49 Zs zV 14 dn s=some [(.normal,s)]:=qd
def zW:Code:=ZgE zvH
def zvI:Code:=ZhX zvH
theorem zhU:C 49 zvH s=thenV (C 49 zW s) (C 49 zvI):=qS
def zw:List Nat:=[0,1,3,7,0,16,63,127,0,256,768,1792,0,4096,16128,32512,65535,0,262143]
theorem zif:C 49 zW s=D 49 zW zw 0 [] s:=qD 24
theorem zhV:D 49 zW zw 0 dn s=ZhW s (some 167) 0 zw dn (some {v:=R s 0}) (D 49 zW zw 1):=dR
theorem zhW:D 49 zW zw 1 dn s=ZhW s (some 168) 1 zw dn (ZCn Tryz.prog (R s 167)) (D 49 zW zw 2):=dR
theorem zh7:D 49 zW zw 2 dn s=ZhW s (some 169) 2 zw dn (val (ZmN (R s 168) 2)) (D 49 zW zw 3):=dR
theorem zh8:D 49 zW zw 3 dn s=ZhW s (some 170) 3 zw dn (Zi3 Tryz.prog 27 s.h.get (R s 169)) (D 49 zW zw 4):=dR
theorem zh9:D 49 zW zw 4 dn s=ZhW s (some 171) 4 zw dn (val (indexAddr Tryz.prog 42 (R s 13) (.int .i64 (0)))) (D 49 zW zw 5):=dR
theorem zia:D 49 zW zw 5 dn s=ZhW s (some 172) 5 zw dn (Zi3 Tryz.prog 3 s.h.get (R s 171)) (D 49 zW zw 6):=dR
theorem zib:D 49 zW zw 6 dn s=ZhW s (some 173) 6 zw dn (val (indexAddr Tryz.prog 27 (R s 170) (R s 172))) (D 49 zW zw 7):=dR
theorem zic:D 49 zW zw 7 dn s=ZhW s (some 174) 7 zw dn (Zi3 Tryz.prog 3 s.h.get (R s 173)) (D 49 zW zw 8):=dR
theorem zid:D 49 zW zw 8 dn s=ZhW s (some 175) 8 zw dn (some {v:=R s 0}) (D 49 zW zw 9):=dR
theorem zie:D 49 zW zw 9 dn s=ZhW s (some 176) 9 zw dn (ZCn Tryz.prog (R s 175)) (D 49 zW zw 10):=dR
theorem zhX:D 49 zW zw 10 dn s=ZhW s (some 177) 10 zw dn (val (ZmN (R s 176) 2)) (D 49 zW zw 11):=dR
theorem zhY:D 49 zW zw 11 dn s=ZhW s (some 178) 11 zw dn (Zi3 Tryz.prog 27 s.h.get (R s 177)) (D 49 zW zw 12):=dR
theorem zhZ:D 49 zW zw 12 dn s=ZhW s (some 179) 12 zw dn (val (indexAddr Tryz.prog 42 (R s 13) (.int .i64 (1)))) (D 49 zW zw 13):=dR
theorem zh0:D 49 zW zw 13 dn s=ZhW s (some 180) 13 zw dn (Zi3 Tryz.prog 3 s.h.get (R s 179)) (D 49 zW zw 14):=dR
theorem zh1:D 49 zW zw 14 dn s=ZhW s (some 181) 14 zw dn (val (indexAddr Tryz.prog 27 (R s 178) (R s 180))) (D 49 zW zw 15):=dR
theorem zh2:D 49 zW zw 15 dn s=ZhW s (some 182) 15 zw dn (Zi3 Tryz.prog 3 s.h.get (R s 181)) (D 49 zW zw 16):=dR
theorem zh3:D 49 zW zw 16 dn s=ZhW s (some 183) 16 zw dn (val (build Tryz.prog 170 [(0,(R s 174)),(1,(R s 182))])) (D 49 zW zw 17):=dR
theorem zh4:D 49 zW zw 17 dn s=ZhW s (some 14) 17 zw dn (some {v:=.ptr s.h.n 0,nw:=[.row 0 [.int .i64 (0),.int .i64 (0)]]}) (D 49 zW zw 18):=dR
theorem zh5:D 49 zW zw 18 dn s=ZhW s none 18 zw dn (ZnB Tryz.prog 170 s.h.get (R s 14) (R s 183)) (D 49 zW zw 19):=dR
theorem zh6:D 49 zW zw 19 dn s=some [(.normal,s)]:=qd
def JW:Code:=ZgE zvI
def zvJ:Code:=ZhX zvI
theorem zig:C 49 zvI s=thenV (C 49 JW s) (C 49 zvJ):=qS
def Zn:List Nat:=[0,1,3,7,0,31,63,127,127,255,1023]
theorem ziu:C 49 JW s=D 49 JW Zn 0 [] s:=qD 25
theorem zih:D 49 JW Zn 0 dn s=ZhW s (some 185) 0 Zn dn (some {v:=R s 0}) (D 49 JW Zn 1):=dR
theorem zii:D 49 JW Zn 1 dn s=ZhW s (some 186) 1 Zn dn (ZCn Tryz.prog (R s 185)) (D 49 JW Zn 2):=dR
theorem zil:D 49 JW Zn 2 dn s=ZhW s (some 187) 2 Zn dn (val (ZmN (R s 186) 5)) (D 49 JW Zn 3):=dR
theorem zim:D 49 JW Zn 3 dn s=ZhW s (some 188) 3 Zn dn (Zi3 Tryz.prog 79 s.h.get (R s 187)) (D 49 JW Zn 4):=dR
theorem zin:D 49 JW Zn 4 dn s=ZhW s (some 189) 4 Zn dn (Zi3 Tryz.prog 170 s.h.get (R s 14)) (D 49 JW Zn 5):=dR
theorem zio:D 49 JW Zn 5 dn s=ZhW s (some 190) 5 Zn dn (lookup Tryz.prog s.h.get 79 (R s 188) (R s 189) true) (D 49 JW Zn 6):=dR
theorem ziq:D 49 JW Zn 6 dn s=ZhW s (some 184) 6 Zn dn (some {v:=R s 190}) (D 49 JW Zn 7):=dR
theorem zir:D 49 JW Zn 7 dn s=ZhW s (some 191) 7 Zn dn (ZC6 (R s 184) 0) (D 49 JW Zn 8):=dR
theorem zis:D 49 JW Zn 8 dn s=ZhW s (some 192) 8 Zn dn (ZC6 (R s 184) 1) (D 49 JW Zn 9):=dR
theorem zit:D 49 JW Zn 9 dn s=ZhW s (some 15) 9 Zn dn (some {v:=R s 191}) (D 49 JW Zn 10):=dR
theorem zij:D 49 JW Zn 10 dn s=ZhW s (some 16) 10 Zn dn (some {v:=R s 192}) (D 49 JW Zn 11):=dR
theorem zik:D 49 JW Zn 11 dn s=some [(.normal,s)]:=qd
def zD:Code:=ZgE zvJ
def zvK:Code:=ZhX zvJ
theorem ziw:C 49 zvJ s=thenV (C 49 zD s) (C 49 zvK):=qS
def zi:List Nat:=[0,1,3,7,15,31,3,127,255,3,515,1539,3587,3,15875,32259,65535,131071]
theorem ziQ:C 49 zD s=D 49 zD zi 0 [] s:=qD 26
theorem zix:D 49 zD zi 0 dn s=ZhW s (some 193) 0 zi dn (some {v:=R s 16}) (D 49 zD zi 1):=dR
theorem ziy:D 49 zD zi 1 dn s=ZhW s (some 194) 1 zi dn (some {v:=R s 193}) (D 49 zD zi 2):=dR
theorem ziI:D 49 zD zi 2 dn s=if Zmx (R s 194) true=true then ZhW s (some 195) 2 zi dn (some {v:=R s 0}) (D 49 zD zi 3) else D 49 zD zi 3 dn (ZmH s (some 195)):=dI
theorem ziJ:D 49 zD zi 3 dn s=if Zmx (R s 194) true=true then ZhW s (some 196) 3 zi dn (ZCn Tryz.prog (R s 195)) (D 49 zD zi 4) else D 49 zD zi 4 dn (ZmH s (some 196)):=dI
theorem ziK:D 49 zD zi 4 dn s=if Zmx (R s 194) true=true then ZhW s (some 197) 4 zi dn (val (ZmN (R s 196) 2)) (D 49 zD zi 5) else D 49 zD zi 5 dn (ZmH s (some 197)):=dI
theorem ziL:D 49 zD zi 5 dn s=if Zmx (R s 194) true=true then ZhW s (some 198) 5 zi dn (Zi3 Tryz.prog 27 s.h.get (R s 197)) (D 49 zD zi 6) else D 49 zD zi 6 dn (ZmH s (some 198)):=dI
theorem ziM:D 49 zD zi 6 dn s=if Zmx (R s 194) true=true then ZhW s (some 199) 6 zi dn (some {v:=R s 15}) (D 49 zD zi 7) else D 49 zD zi 7 dn (ZmH s (some 199)):=dI
theorem ziN:D 49 zD zi 7 dn s=if Zmx (R s 194) true=true then ZhW s (some 200) 7 zi dn (val (indexAddr Tryz.prog 27 (R s 198) (R s 199))) (D 49 zD zi 8) else D 49 zD zi 8 dn (ZmH s (some 200)):=dI
theorem ziO:D 49 zD zi 8 dn s=if Zmx (R s 194) true=true then ZhW s (some 201) 8 zi dn (Zi3 Tryz.prog 3 s.h.get (R s 200)) (D 49 zD zi 9) else D 49 zD zi 9 dn (ZmH s (some 201)):=dI
theorem ziP:D 49 zD zi 9 dn s=if Zmx (R s 194) true=true then ZhW s (some 202) 9 zi dn (some {v:=R s 0}) (D 49 zD zi 10) else D 49 zD zi 10 dn (ZmH s (some 202)):=dI
theorem ziz:D 49 zD zi 10 dn s=if Zmx (R s 194) true=true then ZhW s (some 203) 10 zi dn (ZCn Tryz.prog (R s 202)) (D 49 zD zi 11) else D 49 zD zi 11 dn (ZmH s (some 203)):=dI
theorem ziA:D 49 zD zi 11 dn s=if Zmx (R s 194) true=true then ZhW s (some 204) 11 zi dn (val (ZmN (R s 203) 2)) (D 49 zD zi 12) else D 49 zD zi 12 dn (ZmH s (some 204)):=dI
theorem ziB:D 49 zD zi 12 dn s=if Zmx (R s 194) true=true then ZhW s (some 205) 12 zi dn (Zi3 Tryz.prog 27 s.h.get (R s 204)) (D 49 zD zi 13) else D 49 zD zi 13 dn (ZmH s (some 205)):=dI
theorem ziC:D 49 zD zi 13 dn s=if Zmx (R s 194) true=true then ZhW s (some 206) 13 zi dn (some {v:=R s 12}) (D 49 zD zi 14) else D 49 zD zi 14 dn (ZmH s (some 206)):=dI
theorem ziD:D 49 zD zi 14 dn s=if Zmx (R s 194) true=true then ZhW s (some 207) 14 zi dn (val (indexAddr Tryz.prog 27 (R s 205) (R s 206))) (D 49 zD zi 15) else D 49 zD zi 15 dn (ZmH s (some 207)):=dI
theorem ziE:D 49 zD zi 15 dn s=if Zmx (R s 194) true=true then ZhW s (some 208) 15 zi dn (Zi3 Tryz.prog 3 s.h.get (R s 207)) (D 49 zD zi 16) else D 49 zD zi 16 dn (ZmH s (some 208)):=dI
theorem ziF:D 49 zD zi 16 dn s=if Zmx (R s 194) true=true then ZhW s (some 209) 16 zi dn (val (ZmJ Tryz.prog .neq 3 false false (R s 201) (R s 208))) (D 49 zD zi 17) else D 49 zD zi 17 dn (ZmH s (some 209)):=dI
theorem ziG:D 49 zD zi 17 dn s=ZhW s (some 210) 17 zi dn (ZCE (R s 194) (R s 209) (.bool false)) (D 49 zD zi 18):=dR
theorem ziH:D 49 zD zi 18 dn s=some [(.normal,s)]:=qd
def Qq:Code:=ZgE zvK
def Qr:Code:=ZhX zvK
theorem ziR:C 49 zvK s=ZmY (R s 210) (C 49 Qq) (C 49 Qr) s:=qC
theorem zi0:C 49 Qq s=O 49 Qq 0 s:=qG 27
theorem ziS:O 49 Qq 0 s=Zbb s (some 211) (some {v:=R s 4}) (O 49 Qq 1):=oR
theorem ziT:O 49 Qq 1 s=Zbb s (some 212) (some {v:=R s 12}) (O 49 Qq 2):=oR
theorem ziU:O 49 Qq 2 s=Zbb s (some 213) (some {v:=R s 15}) (O 49 Qq 3):=oR
theorem ziV:O 49 Qq 3 s=Zbb s (some 214) (val (build Tryz.prog 126 [(0,(R s 212)),(1,(R s 213)),(2,(.int .i64 (-1)))])) (O 49 Qq 4):=oR
theorem ziW:O 49 Qq 4 s=Zbb s (some 215) (ZDl Tryz.prog false 80 1 [(0,(R s 214))] s.h.n) (O 49 Qq 5):=oR
theorem ziX:O 49 Qq 5 s=Zbb s (some 216) (ZmL Tryz.prog false s.h.get s.h.n .append [80,80] [R s 211,R s 215]) (O 49 Qq 6):=oR
theorem ziY:O 49 Qq 6 s=Zbb s (some 4) (some {v:=R s 216}) (O 49 Qq 7):=oR
theorem ziZ:O 49 Qq 7 s=some [(.normal,s)]:=qe
def Qa:List Nat:=[0,1,3,7,0,0,63]
theorem zi9:C 49 Qr s=D 49 Qr Qa 0 [] s:=qD 28
theorem zi1:D 49 Qr Qa 0 dn s=ZhW s (some 217) 0 Qa dn (some {v:=R s 0}) (D 49 Qr Qa 1):=dR
theorem zi2:D 49 Qr Qa 1 dn s=ZhW s (some 218) 1 Qa dn (ZCn Tryz.prog (R s 217)) (D 49 Qr Qa 2):=dR
theorem zi3:D 49 Qr Qa 2 dn s=ZhW s (some 219) 2 Qa dn (val (ZmN (R s 218) 5)) (D 49 Qr Qa 3):=dR
theorem zi4:D 49 Qr Qa 3 dn s=ZhW s (some 220) 3 Qa dn (Zi3 Tryz.prog 79 s.h.get (R s 219)) (D 49 Qr Qa 4):=dR
theorem zi5:D 49 Qr Qa 4 dn s=ZhW s (some 221) 4 Qa dn (Zi3 Tryz.prog 170 s.h.get (R s 14)) (D 49 Qr Qa 5):=dR
theorem zi6:D 49 Qr Qa 5 dn s=ZhW s (some 222) 5 Qa dn (some {v:=R s 12}) (D 49 Qr Qa 6):=dR
theorem zi7:D 49 Qr Qa 6 dn s=ZhW s none 6 Qa dn (mapUpdate Tryz.prog s.h.get 79 (R s 220) (R s 221) (R s 222)) (D 49 Qr Qa 7):=dR
theorem zi8:D 49 Qr Qa 7 dn s=some [(.normal,s)]:=qd
theorem zhw:C 49 zbB s=O 49 zbB 0 s:=qG 29
theorem zht:O 49 zbB 0 s=Zbb s (some 223) (val (ZmJ Tryz.prog .add 3 false true (R s 151) (.int .i64 (1)))) (O 49 zbB 1):=oR
theorem zhu:O 49 zbB 1 s=Zbb s (some 151) (some {v:=R s 223}) (O 49 zbB 2):=oR
theorem zhv:O 49 zbB 2 s=some [(.normal,s)]:=qe
end
end
end Go.Proofs.YtdlaladdeelegaaGreat.Cg
end
