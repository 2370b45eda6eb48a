/- Equations of the code. -/
import Derived.Test.YtdlaladdeelegaaGreatE1
import Derived.KernelRfl
set_option linter.all false
noncomputable section
namespace Go.Proofs.YtdlaladdeelegaaGreat.Cg
open Go Go.Ae
variable (dn:List (Nat×Foot)) (s:St)
def k22:Code:=Tryz.f22.body.getD .skip
theorem zRn (args:List V) (ha:args.length≤166) (h:H):(EV Tryz.prog hs ks).call 22 args h=endsV Tryz.prog hs ks Tryz.f22 (C 22 k22 (S 166 (setF args 0 fun _=> undefV) [] h)):=Qu Tryz.func22 (by kernel_rfl) (by kernel_rfl) (by decide) rfl ha h
theorem zjU (f:Nat→V) (h:H):endsV Tryz.prog hs ks Tryz.f22 (some [(.ret,S 166 f [] h)])=resV (resultVs Tryz.prog (S 166 f [] h) [.tmp 8]) h:=Zc (by kernel_rfl) (Or.inl rfl) _ _
def zce:Code:=codeA k22
def zlX:Code:=codeB k22
theorem zjT:C 22 k22 s=thenV (C 22 zce s) (C 22 zlX):=za (a:=zce) (b:=zlX) (by kernel_rfl) _ _
theorem zlW:C 22 zce s=O 22 zce 0 s:=zb (id:=0) (ops:=regOps zce) (by kernel_rfl) (by kernel_rfl) s
theorem zlU:O 22 zce 0 s=stepV s (some 8) (some { v:=(.nilp) }) (O 22 zce 1):=oR
theorem zlV:O 22 zce 1 s=some [(.normal,s)]:=zc (by kernel_rfl) s
def QM:Code:=codeA zlX
def znn:Code:=codeB zlX
theorem zjK:C 22 zlX s=thenV (C 22 QM s) (C 22 znn):=za (a:=QM) (b:=znn) (by kernel_rfl) _ _
theorem znm:C 22 QM s=O 22 QM 0 s:=zb (id:=1) (ops:=regOps QM) (by kernel_rfl) (by kernel_rfl) s
theorem zng:O 22 QM 0 s=stepV s (some 17) (some { v:=(R s 0) }) (O 22 QM 1):=oR
theorem znh:O 22 QM 1 s=stepV s (some 18) (some { v:=(R s 1) }) (O 22 QM 2):=oR
theorem zni:O 22 QM 2 s=stepV s (some 19) (builtinV Tryz.prog false s.h.get s.h.n .len [22] [(R s 18)]) (O 22 QM 3):=oR
theorem znj:O 22 QM 3 s=stepV s (some 20) (val (binV Tryz.prog .add 3 false false (R s 17) (R s 19))) (O 22 QM 4):=oR
theorem znk:O 22 QM 4 s=stepV s (some 9) (some { v:=(R s 20) }) (O 22 QM 5):=oR
theorem znl:O 22 QM 5 s=some [(.normal,s)]:=zc (by kernel_rfl) s
def J0:Code:=codeA znn
def zoL:Code:=codeB znn
theorem zjM:C 22 znn s=thenV (C 22 J0 s) (C 22 zoL):=za (a:=J0) (b:=zoL) (by kernel_rfl) _ _
def ZC:List Nat:=[0,0,0,4,0,16,0,127,255,511]
theorem zoK:C 22 J0 s=D 22 J0 ZC 0 [] s:=JI (id:=2) (ops:=regOps J0) (by kernel_rfl) (by kernel_rfl) (by kernel_rfl) (by kernel_rfl) s
theorem zoz:D 22 J0 ZC 0 dn s=stepD s (some 21) 0 ZC dn (some { v:=(R s 0) }) (D 22 J0 ZC 1):=dR
theorem zoA:D 22 J0 ZC 1 dn s=stepD s (some 22) 1 ZC dn (some { v:=(R s 1) }) (D 22 J0 ZC 2):=dR
theorem zoC:D 22 J0 ZC 2 dn s=stepD s (some 23) 2 ZC dn (some { v:=(R s 9) }) (D 22 J0 ZC 3):=dR
theorem zoD:D 22 J0 ZC 3 dn s=stepD s (some 24) 3 ZC dn (mkS Tryz.prog 27 s.h.n (R s 23) (R s 23)) (D 22 J0 ZC 4):=dR
theorem zoE:D 22 J0 ZC 4 dn s=stepD s (some 25) 4 ZC dn (some { v:=(R s 9) }) (D 22 J0 ZC 5):=dR
theorem zoF:D 22 J0 ZC 5 dn s=stepD s (some 26) 5 ZC dn (mkS Tryz.prog 27 s.h.n (R s 25) (R s 25)) (D 22 J0 ZC 6):=dR
theorem zoG:D 22 J0 ZC 6 dn s=stepD s (some 27) 6 ZC dn (some { v:=.map s.h.n,nw:=[.map [] 0] }) (D 22 J0 ZC 7):=dR
theorem zoH:D 22 J0 ZC 7 dn s=stepD s (some 28) 7 ZC dn (val (build Tryz.prog 82 [(0,(R s 21)),(1,(R s 22)),(3,(R s 24)),(4,(R s 26)),(5,(R s 27))])) (D 22 J0 ZC 8):=dR
theorem zoI:D 22 J0 ZC 8 dn s=stepD s (some 29) 8 ZC dn (some { v:=.ptr s.h.n 0,nw:=[.row 0 (V.cells (R s 28))] }) (D 22 J0 ZC 9):=dR
theorem zoJ:D 22 J0 ZC 9 dn s=stepD s (some 10) 9 ZC dn (some { v:=(R s 29) }) (D 22 J0 ZC 10):=dR
theorem zoB:D 22 J0 ZC 10 dn s=some [(.normal,s)]:=JJ (by kernel_rfl) dn s
def zpC:Code:=codeA zoL
def zp2:Code:=codeB zoL
theorem zdt:C 22 zoL s=thenV (C 22 zpC s) (C 22 zp2):=za (a:=zpC) (b:=zp2) (by kernel_rfl) _ _
def zbj:Code:=codeA zpC
def zxj:Code:=codeB zpC
theorem zdv:C 22 zpC s=thenV (C 22 zbj s) (C 22 zxj):=za (a:=zbj) (b:=zxj) (by kernel_rfl) _ _
theorem zqo:C 22 zbj s=O 22 zbj 0 s:=zb (id:=3) (ops:=regOps zbj) (by kernel_rfl) (by kernel_rfl) s
theorem zql:O 22 zbj 0 s=stepV s (some 30) (some { v:=(R s 9) }) (O 22 zbj 1):=oR
theorem zqm:O 22 zbj 1 s=stepV s (some 31) (some { v:=(.int .i64 (0)) }) (O 22 zbj 2):=oR
theorem zqn:O 22 zbj 2 s=some [(.normal,s)]:=zc (by kernel_rfl) s
def zjJ:Code:=codeA zxj
theorem zdx:C 22 zxj s=blockV 0 (C 22 zjJ s):=zu (b:=zjJ) (by kernel_rfl) _ _
def zlY:Code:=codeA zjJ
theorem zHq:C 22 zjJ s=thenV (C 22 zlY s) (C 22 zjJ):=ZG (b:=zlY) (by kernel_rfl) _ _
def zcf:Code:=codeA zlY
def zl3:Code:=codeB zlY
theorem zlZ:C 22 zlY s=thenV (C 22 zcf s) (C 22 zl3):=za (a:=zcf) (b:=zl3) (by kernel_rfl) _ _
theorem zl2:C 22 zcf s=O 22 zcf 0 s:=zb (id:=4) (ops:=regOps zcf) (by kernel_rfl) (by kernel_rfl) s
theorem zl0:O 22 zcf 0 s=stepV s (some 32) (val (binV Tryz.prog .lss 3 false false (R s 31) (R s 30))) (O 22 zcf 1):=oR
theorem zl1:O 22 zcf 1 s=some [(.normal,s)]:=zc (by kernel_rfl) s
def zl5:Code:=codeA zl3
def zl7:Code:=codeB zl3
theorem zl4:C 22 zl3 s=thenV (C 22 zl5 s) (C 22 zl7):=za (a:=zl5) (b:=zl7) (by kernel_rfl) _ _
def zAv:Code:=codeA zl5
def zAw:Code:=codeB zl5
theorem zl6:C 22 zl5 s=condV (R s 32) (C 22 zAv) (C 22 zAw) s:=zl (t:=32) (a:=zAv) (b:=zAw) (by kernel_rfl) _ _
theorem zl9:C 22 zAv s=some [(.normal,s)]:=zp (by kernel_rfl) _ _
theorem zma:C 22 zAw s=some [(.exit 0,s)]:=Zx (by kernel_rfl) _ _
def zxe:Code:=codeA zl7
def zbe:Code:=codeB zl7
theorem zl8:C 22 zl7 s=thenV (C 22 zxe s) (C 22 zbe):=za (a:=zxe) (b:=zbe) (by kernel_rfl) _ _
def zmg:Code:=codeA zxe
theorem zmb:C 22 zxe s=blockV 1 (C 22 zmg s):=zu (b:=zmg) (by kernel_rfl) _ _
def zbf:Code:=codeA zmg
def zmm:Code:=codeB zmg
theorem zmh:C 22 zmg s=thenV (C 22 zbf s) (C 22 zmm):=za (a:=zbf) (b:=zmm) (by kernel_rfl) _ _
theorem zml:C 22 zbf s=O 22 zbf 0 s:=zb (id:=5) (ops:=regOps zbf) (by kernel_rfl) (by kernel_rfl) s
theorem zmi:O 22 zbf 0 s=stepV s (some 33) (some { v:=(R s 31) }) (O 22 zbf 1):=oR
theorem zmj:O 22 zbf 1 s=stepV s (some 11) (some { v:=(R s 33) }) (O 22 zbf 2):=oR
theorem zmk:O 22 zbf 2 s=some [(.normal,s)]:=zc (by kernel_rfl) s
def JT:Code:=codeA zmm
def zmB:Code:=codeB zmm
theorem zmn:C 22 zmm s=thenV (C 22 JT s) (C 22 zmB):=za (a:=JT) (b:=zmB) (by kernel_rfl) _ _
theorem zmA:C 22 JT s=O 22 JT 0 s:=zb (id:=6) (ops:=regOps JT) (by kernel_rfl) (by kernel_rfl) s
theorem zmo:O 22 JT 0 s=stepV s (some 34) (some { v:=(R s 10) }) (O 22 JT 1):=oR
theorem zmp:O 22 JT 1 s=stepV s (some 35) (some { v:=(R s 10) }) (O 22 JT 2):=oR
theorem zms:O 22 JT 2 s=stepV s (some 36) (xNilCheck Tryz.prog (R s 35)) (O 22 JT 3):=oR
theorem zmt:O 22 JT 3 s=stepV s (some 37) (val (addrAdd (R s 36) 2)) (O 22 JT 4):=oR
theorem zmu:O 22 JT 4 s=stepV s (some 38) (xLoad Tryz.prog 27 s.h.get (R s 37)) (O 22 JT 5):=oR
theorem zmv:O 22 JT 5 s=stepV s (some 39) (some { v:=(R s 11) }) (O 22 JT 6):=oR
theorem zmw:O 22 JT 6 s=stepV s (some 40) (litS Tryz.prog false 27 1 [(0,(R s 39))] s.h.n) (O 22 JT 7):=oR
theorem zmx:O 22 JT 7 s=stepV s (some 41) (builtinV Tryz.prog true s.h.get s.h.n .append [27,27] [(R s 38),(R s 40)]) (O 22 JT 8):=oR
theorem zmy:O 22 JT 8 s=stepV s (some 42) (xNilCheck Tryz.prog (R s 34)) (O 22 JT 9):=oR
theorem zmz:O 22 JT 9 s=stepV s (some 43) (val (addrAdd (R s 42) 2)) (O 22 JT 10):=oR
theorem zmq:O 22 JT 10 s=stepV s none (xStore Tryz.prog 27 s.h.get (R s 43) (R s 41)) (O 22 JT 11):=oR
theorem zmr:O 22 JT 11 s=some [(.normal,s)]:=zc (by kernel_rfl) s
def J4:Code:=codeA zmB
def zmO:Code:=codeB zmB
theorem zmC:C 22 zmB s=thenV (C 22 J4 s) (C 22 zmO):=za (a:=J4) (b:=zmO) (by kernel_rfl) _ _
theorem zmN:C 22 J4 s=O 22 J4 0 s:=zb (id:=7) (ops:=regOps J4) (by kernel_rfl) (by kernel_rfl) s
theorem zmD:O 22 J4 0 s=stepV s (some 44) (some { v:=(R s 10) }) (O 22 J4 1):=oR
theorem zmE:O 22 J4 1 s=stepV s (some 45) (xNilCheck Tryz.prog (R s 44)) (O 22 J4 2):=oR
theorem zmF:O 22 J4 2 s=stepV s (some 46) (val (addrAdd (R s 45) 3)) (O 22 J4 3):=oR
theorem zmG:O 22 J4 3 s=stepV s (some 47) (xLoad Tryz.prog 78 s.h.get (R s 46)) (O 22 J4 4):=oR
theorem zmH:O 22 J4 4 s=stepV s (some 48) (some { v:=(R s 11) }) (O 22 J4 5):=oR
theorem zmI:O 22 J4 5 s=stepV s (some 49) (some { v:=(R s 11) }) (O 22 J4 6):=oR
theorem zmJ:O 22 J4 6 s=stepV s (some 50) (litS Tryz.prog false 27 1 [(0,(R s 49))] s.h.n) (O 22 J4 7):=oR
theorem zmK:O 22 J4 7 s=stepV s (some 51) (val (indexAddr Tryz.prog 78 (R s 47) (R s 48))) (O 22 J4 8):=oR
theorem zmL:O 22 J4 8 s=stepV s none (xStore Tryz.prog 27 s.h.get (R s 51) (R s 50)) (O 22 J4 9):=oR
theorem zmM:O 22 J4 9 s=some [(.normal,s)]:=zc (by kernel_rfl) s
def JZ:Code:=codeA zmO
def JU:Code:=codeB zmO
theorem zmP:C 22 zmO s=thenV (C 22 JZ s) (C 22 JU):=za (a:=JZ) (b:=JU) (by kernel_rfl) _ _
theorem zm1:C 22 JZ s=O 22 JZ 0 s:=zb (id:=8) (ops:=regOps JZ) (by kernel_rfl) (by kernel_rfl) s
theorem zmQ:O 22 JZ 0 s=stepV s (some 52) (some { v:=(R s 10) }) (O 22 JZ 1):=oR
theorem zmR:O 22 JZ 1 s=stepV s (some 53) (some { v:=(R s 10) }) (O 22 JZ 2):=oR
theorem zmT:O 22 JZ 2 s=stepV s (some 54) (xNilCheck Tryz.prog (R s 53)) (O 22 JZ 3):=oR
theorem zmU:O 22 JZ 3 s=stepV s (some 55) (val (addrAdd (R s 54) 6)) (O 22 JZ 4):=oR
theorem zmV:O 22 JZ 4 s=stepV s (some 56) (xLoad Tryz.prog 27 s.h.get (R s 55)) (O 22 JZ 5):=oR
theorem zmW:O 22 JZ 5 s=stepV s (some 57) (litS Tryz.prog false 27 1 [(0,(.int .i64 (-1)))] s.h.n) (O 22 JZ 6):=oR
theorem zmX:O 22 JZ 6 s=stepV s (some 58) (builtinV Tryz.prog true s.h.get s.h.n .append [27,27] [(R s 56),(R s 57)]) (O 22 JZ 7):=oR
theorem zmY:O 22 JZ 7 s=stepV s (some 59) (xNilCheck Tryz.prog (R s 52)) (O 22 JZ 8):=oR
theorem zmZ:O 22 JZ 8 s=stepV s (some 60) (val (addrAdd (R s 59) 6)) (O 22 JZ 9):=oR
theorem zm0:O 22 JZ 9 s=stepV s none (xStore Tryz.prog 27 s.h.get (R s 60) (R s 58)) (O 22 JZ 10):=oR
theorem zmS:O 22 JZ 10 s=some [(.normal,s)]:=zc (by kernel_rfl) s
theorem zne:C 22 JU s=O 22 JU 0 s:=zb (id:=9) (ops:=regOps JU) (by kernel_rfl) (by kernel_rfl) s
theorem zm2:O 22 JU 0 s=stepV s (some 61) (some { v:=(R s 10) }) (O 22 JU 1):=oR
theorem zm3:O 22 JU 1 s=stepV s (some 62) (some { v:=(R s 10) }) (O 22 JU 2):=oR
theorem zm6:O 22 JU 2 s=stepV s (some 63) (xNilCheck Tryz.prog (R s 62)) (O 22 JU 3):=oR
theorem zm7:O 22 JU 3 s=stepV s (some 64) (val (addrAdd (R s 63) 7)) (O 22 JU 4):=oR
theorem zm8:O 22 JU 4 s=stepV s (some 65) (xLoad Tryz.prog 80 s.h.get (R s 64)) (O 22 JU 5):=oR
theorem zm9:O 22 JU 5 s=stepV s (some 66) (val (build Tryz.prog 126 [])) (O 22 JU 6):=oR
theorem zna:O 22 JU 6 s=stepV s (some 67) (litS Tryz.prog false 80 1 [(0,(R s 66))] s.h.n) (O 22 JU 7):=oR
theorem znb:O 22 JU 7 s=stepV s (some 68) (builtinV Tryz.prog true s.h.get s.h.n .append [80,80] [(R s 65),(R s 67)]) (O 22 JU 8):=oR
theorem znc:O 22 JU 8 s=stepV s (some 69) (xNilCheck Tryz.prog (R s 61)) (O 22 JU 9):=oR
theorem znd:O 22 JU 9 s=stepV s (some 70) (val (addrAdd (R s 69) 7)) (O 22 JU 10):=oR
theorem zm4:O 22 JU 10 s=stepV s none (xStore Tryz.prog 80 s.h.get (R s 70) (R s 68)) (O 22 JU 11):=oR
theorem zm5:O 22 JU 11 s=some [(.normal,s)]:=zc (by kernel_rfl) s
theorem zmf:C 22 zbe s=O 22 zbe 0 s:=zb (id:=10) (ops:=regOps zbe) (by kernel_rfl) (by kernel_rfl) s
theorem zmc:O 22 zbe 0 s=stepV s (some 71) (val (binV Tryz.prog .add 3 false true (R s 31) (.int .i64 (1)))) (O 22 zbe 1):=oR
theorem zmd:O 22 zbe 1 s=stepV s (some 31) (some { v:=(R s 71) }) (O 22 zbe 2):=oR
theorem zme:O 22 zbe 2 s=some [(.normal,s)]:=zc (by kernel_rfl) s
def znf:Code:=codeA zp2
def zno:Code:=codeB zp2
theorem zdw:C 22 zp2 s=thenV (C 22 znf s) (C 22 zno):=za (a:=znf) (b:=zno) (by kernel_rfl) _ _
def zan:Code:=codeA znf
def zxf:Code:=codeB znf
theorem zdn:C 22 znf s=thenV (C 22 zan s) (C 22 zxf):=za (a:=zan) (b:=zxf) (by kernel_rfl) _ _
theorem znt:C 22 zan s=O 22 zan 0 s:=zb (id:=11) (ops:=regOps zan) (by kernel_rfl) (by kernel_rfl) s
theorem znp:O 22 zan 0 s=stepV s (some 72) (some { v:=(R s 1) }) (O 22 zan 1):=oR
theorem znq:O 22 zan 1 s=stepV s (some 73) (builtinV Tryz.prog false s.h.get s.h.n .len [22] [(R s 72)]) (O 22 zan 2):=oR
theorem znr:O 22 zan 2 s=stepV s (some 74) (some { v:=(.int .i64 (0)) }) (O 22 zan 3):=oR
theorem zns:O 22 zan 3 s=some [(.normal,s)]:=zc (by kernel_rfl) s
def zjL:Code:=codeA zxf
theorem zdp:C 22 zxf s=blockV 2 (C 22 zjL s):=zu (b:=zjL) (by kernel_rfl) _ _
def znu:Code:=codeA zjL
theorem zAx:C 22 zjL s=thenV (C 22 znu s) (C 22 zjL):=ZG (b:=znu) (by kernel_rfl) _ _
def zcg:Code:=codeA znu
def znz:Code:=codeB znu
theorem znv:C 22 znu s=thenV (C 22 zcg s) (C 22 znz):=za (a:=zcg) (b:=znz) (by kernel_rfl) _ _
theorem zny:C 22 zcg s=O 22 zcg 0 s:=zb (id:=12) (ops:=regOps zcg) (by kernel_rfl) (by kernel_rfl) s
theorem znw:O 22 zcg 0 s=stepV s (some 75) (val (binV Tryz.prog .lss 3 false false (R s 74) (R s 73))) (O 22 zcg 1):=oR
theorem znx:O 22 zcg 1 s=some [(.normal,s)]:=zc (by kernel_rfl) s
def znB:Code:=codeA znz
def znD:Code:=codeB znz
theorem znA:C 22 znz s=thenV (C 22 znB s) (C 22 znD):=za (a:=znB) (b:=znD) (by kernel_rfl) _ _
def zAy:Code:=codeA znB
def zAz:Code:=codeB znB
theorem znC:C 22 znB s=condV (R s 75) (C 22 zAy) (C 22 zAz) s:=zl (t:=75) (a:=zAy) (b:=zAz) (by kernel_rfl) _ _
theorem znE:C 22 zAy s=some [(.normal,s)]:=zp (by kernel_rfl) _ _
theorem znF:C 22 zAz s=some [(.exit 2,s)]:=Zx (by kernel_rfl) _ _
def zxg:Code:=codeA znD
def zbg:Code:=codeB znD
theorem zch:C 22 znD s=thenV (C 22 zxg s) (C 22 zbg):=za (a:=zxg) (b:=zbg) (by kernel_rfl) _ _
def znK:Code:=codeA zxg
theorem zjN:C 22 zxg s=blockV 3 (C 22 znK s):=zu (b:=znK) (by kernel_rfl) _ _
def Qy:Code:=codeA znK
def znT:Code:=codeB znK
theorem zci:C 22 znK s=thenV (C 22 Qy s) (C 22 znT):=za (a:=Qy) (b:=znT) (by kernel_rfl) _ _
theorem znS:C 22 Qy s=O 22 Qy 0 s:=zb (id:=13) (ops:=regOps Qy) (by kernel_rfl) (by kernel_rfl) s
theorem znL:O 22 Qy 0 s=stepV s (some 76) (some { v:=(R s 74) }) (O 22 Qy 1):=oR
theorem znM:O 22 Qy 1 s=stepV s (some 77) (val (indexAddr Tryz.prog 22 (R s 72) (R s 74))) (O 22 Qy 2):=oR
theorem znN:O 22 Qy 2 s=stepV s (some 78) (xLoad Tryz.prog 42 s.h.get (R s 77)) (O 22 Qy 3):=oR
theorem znO:O 22 Qy 3 s=stepV s (some 13) (some { v:=.ptr s.h.n 0,nw:=[.row 0 [.int .i64 (0),.int .i64 (0)]] }) (O 22 Qy 4):=oR
theorem znP:O 22 Qy 4 s=stepV s (some 12) (some { v:=(R s 76) }) (O 22 Qy 5):=oR
theorem znQ:O 22 Qy 5 s=stepV s none (xStore Tryz.prog 42 s.h.get (R s 13) (R s 78)) (O 22 Qy 6):=oR
theorem znR:O 22 Qy 6 s=some [(.normal,s)]:=zc (by kernel_rfl) s
def QZ:Code:=codeA znT
def zn0:Code:=codeB znT
theorem zjO:C 22 znT s=thenV (C 22 QZ s) (C 22 zn0):=za (a:=QZ) (b:=zn0) (by kernel_rfl) _ _
theorem znZ:C 22 QZ s=O 22 QZ 0 s:=zb (id:=14) (ops:=regOps QZ) (by kernel_rfl) (by kernel_rfl) s
theorem znU:O 22 QZ 0 s=stepV s (some 79) (some { v:=(R s 0) }) (O 22 QZ 1):=oR
theorem znV:O 22 QZ 1 s=stepV s (some 80) (some { v:=(R s 12) }) (O 22 QZ 2):=oR
theorem znW:O 22 QZ 2 s=stepV s (some 81) (val (binV Tryz.prog .add 3 false false (R s 79) (R s 80))) (O 22 QZ 3):=oR
theorem znX:O 22 QZ 3 s=stepV s (some 14) (some { v:=(R s 81) }) (O 22 QZ 4):=oR
theorem znY:O 22 QZ 4 s=some [(.normal,s)]:=zc (by kernel_rfl) s
def zj:Code:=codeA zn0
def zoy:Code:=codeB zn0
theorem zjP:C 22 zn0 s=thenV (C 22 zj s) (C 22 zoy):=za (a:=zj) (b:=zoy) (by kernel_rfl) _ _
def zf:List Nat:=[0,1,3,7,0,16,48,112,0,256,1008,2032,0,4096,12288,28672,0,65536,196608,458752,0,1048576,4128768,8323072,16773120,33550336,0,67108864,268431360,536870911,1073741823]
theorem zox:C 22 zj s=D 22 zj zf 0 [] s:=JI (id:=15) (ops:=regOps zj) (by kernel_rfl) (by kernel_rfl) (by kernel_rfl) (by kernel_rfl) s
theorem zn1:D 22 zj zf 0 dn s=stepD s (some 82) 0 zf dn (some { v:=(R s 10) }) (D 22 zj zf 1):=dR
theorem zn2:D 22 zj zf 1 dn s=stepD s (some 83) 1 zf dn (xNilCheck Tryz.prog (R s 82)) (D 22 zj zf 2):=dR
theorem zod:D 22 zj zf 2 dn s=stepD s (some 84) 2 zf dn (val (addrAdd (R s 83) 4)) (D 22 zj zf 3):=dR
theorem zoo:D 22 zj zf 3 dn s=stepD s (some 85) 3 zf dn (xLoad Tryz.prog 78 s.h.get (R s 84)) (D 22 zj zf 4):=dR
theorem zor:D 22 zj zf 4 dn s=stepD s (some 86) 4 zf dn (some { v:=(R s 10) }) (D 22 zj zf 5):=dR
theorem zos:D 22 zj zf 5 dn s=stepD s (some 87) 5 zf dn (xNilCheck Tryz.prog (R s 86)) (D 22 zj zf 6):=dR
theorem zot:D 22 zj zf 6 dn s=stepD s (some 88) 6 zf dn (val (addrAdd (R s 87) 2)) (D 22 zj zf 7):=dR
theorem zou:D 22 zj zf 7 dn s=stepD s (some 89) 7 zf dn (xLoad Tryz.prog 27 s.h.get (R s 88)) (D 22 zj zf 8):=dR
theorem zov:D 22 zj zf 8 dn s=stepD s (some 90) 8 zf dn (val (indexAddr Tryz.prog 42 (R s 13) (.int .i64 (0)))) (D 22 zj zf 9):=dR
theorem zow:D 22 zj zf 9 dn s=stepD s (some 91) 9 zf dn (xLoad Tryz.prog 3 s.h.get (R s 90)) (D 22 zj zf 10):=dR
theorem zn3:D 22 zj zf 10 dn s=stepD s (some 92) 10 zf dn (val (indexAddr Tryz.prog 27 (R s 89) (R s 91))) (D 22 zj zf 11):=dR
theorem zn4:D 22 zj zf 11 dn s=stepD s (some 93) 11 zf dn (xLoad Tryz.prog 3 s.h.get (R s 92)) (D 22 zj zf 12):=dR
theorem zn5:D 22 zj zf 12 dn s=stepD s (some 94) 12 zf dn (some { v:=(R s 10) }) (D 22 zj zf 13):=dR
theorem zn6:D 22 zj zf 13 dn s=stepD s (some 95) 13 zf dn (xNilCheck Tryz.prog (R s 94)) (D 22 zj zf 14):=dR
theorem zn7:D 22 zj zf 14 dn s=stepD s (some 96) 14 zf dn (val (addrAdd (R s 95) 4)) (D 22 zj zf 15):=dR
theorem zn8:D 22 zj zf 15 dn s=stepD s (some 97) 15 zf dn (xLoad Tryz.prog 78 s.h.get (R s 96)) (D 22 zj zf 16):=dR
theorem zn9:D 22 zj zf 16 dn s=stepD s (some 98) 16 zf dn (some { v:=(R s 10) }) (D 22 zj zf 17):=dR
theorem zoa:D 22 zj zf 17 dn s=stepD s (some 99) 17 zf dn (xNilCheck Tryz.prog (R s 98)) (D 22 zj zf 18):=dR
theorem zob:D 22 zj zf 18 dn s=stepD s (some 100) 18 zf dn (val (addrAdd (R s 99) 2)) (D 22 zj zf 19):=dR
theorem zoc:D 22 zj zf 19 dn s=stepD s (some 101) 19 zf dn (xLoad Tryz.prog 27 s.h.get (R s 100)) (D 22 zj zf 20):=dR
theorem zoe:D 22 zj zf 20 dn s=stepD s (some 102) 20 zf dn (val (indexAddr Tryz.prog 42 (R s 13) (.int .i64 (0)))) (D 22 zj zf 21):=dR
theorem zof:D 22 zj zf 21 dn s=stepD s (some 103) 21 zf dn (xLoad Tryz.prog 3 s.h.get (R s 102)) (D 22 zj zf 22):=dR
theorem zog:D 22 zj zf 22 dn s=stepD s (some 104) 22 zf dn (val (indexAddr Tryz.prog 27 (R s 101) (R s 103))) (D 22 zj zf 23):=dR
theorem zoh:D 22 zj zf 23 dn s=stepD s (some 105) 23 zf dn (xLoad Tryz.prog 3 s.h.get (R s 104)) (D 22 zj zf 24):=dR
theorem zoi:D 22 zj zf 24 dn s=stepD s (some 106) 24 zf dn (val (indexAddr Tryz.prog 78 (R s 97) (R s 105))) (D 22 zj zf 25):=dR
theorem zoj:D 22 zj zf 25 dn s=stepD s (some 107) 25 zf dn (xLoad Tryz.prog 27 s.h.get (R s 106)) (D 22 zj zf 26):=dR
theorem zok:D 22 zj zf 26 dn s=stepD s (some 108) 26 zf dn (some { v:=(R s 14) }) (D 22 zj zf 27):=dR
theorem zol:D 22 zj zf 27 dn s=stepD s (some 109) 27 zf dn (litS Tryz.prog false 27 1 [(0,(R s 108))] s.h.n) (D 22 zj zf 28):=dR
theorem zom:D 22 zj zf 28 dn s=stepD s (some 110) 28 zf dn (builtinV Tryz.prog false s.h.get s.h.n .append [27,27] [(R s 107),(R s 109)]) (D 22 zj zf 29):=dR
theorem zon:D 22 zj zf 29 dn s=stepD s (some 111) 29 zf dn (val (indexAddr Tryz.prog 78 (R s 85) (R s 93))) (D 22 zj zf 30):=dR
theorem zop:D 22 zj zf 30 dn s=stepD s none 30 zf dn (xStore Tryz.prog 27 s.h.get (R s 111) (R s 110)) (D 22 zj zf 31):=dR
theorem zoq:D 22 zj zf 31 dn s=some [(.normal,s)]:=JJ (by kernel_rfl) dn s
def zk:Code:=codeA zoy
def zao:Code:=codeB zoy
theorem zjQ:C 22 zoy s=thenV (C 22 zk s) (C 22 zao):=za (a:=zk) (b:=zao) (by kernel_rfl) _ _
def zg:List Nat:=[0,1,3,7,0,16,48,112,0,256,1008,2032,0,4096,12288,28672,0,65536,196608,458752,0,1048576,4128768,8323072,16773120,33550336,0,67108864,268431360,536870911,1073741823]
theorem zpi:C 22 zk s=D 22 zk zg 0 [] s:=JI (id:=16) (ops:=regOps zk) (by kernel_rfl) (by kernel_rfl) (by kernel_rfl) (by kernel_rfl) s
theorem zoM:D 22 zk zg 0 dn s=stepD s (some 112) 0 zg dn (some { v:=(R s 10) }) (D 22 zk zg 1):=dR
theorem zoN:D 22 zk zg 1 dn s=stepD s (some 113) 1 zg dn (xNilCheck Tryz.prog (R s 112)) (D 22 zk zg 2):=dR
theorem zoY:D 22 zk zg 2 dn s=stepD s (some 114) 2 zg dn (val (addrAdd (R s 113) 4)) (D 22 zk zg 3):=dR
theorem zo9:D 22 zk zg 3 dn s=stepD s (some 115) 3 zg dn (xLoad Tryz.prog 78 s.h.get (R s 114)) (D 22 zk zg 4):=dR
theorem zpc:D 22 zk zg 4 dn s=stepD s (some 116) 4 zg dn (some { v:=(R s 10) }) (D 22 zk zg 5):=dR
theorem zpd:D 22 zk zg 5 dn s=stepD s (some 117) 5 zg dn (xNilCheck Tryz.prog (R s 116)) (D 22 zk zg 6):=dR
theorem zpe:D 22 zk zg 6 dn s=stepD s (some 118) 6 zg dn (val (addrAdd (R s 117) 2)) (D 22 zk zg 7):=dR
theorem zpf:D 22 zk zg 7 dn s=stepD s (some 119) 7 zg dn (xLoad Tryz.prog 27 s.h.get (R s 118)) (D 22 zk zg 8):=dR
theorem zpg:D 22 zk zg 8 dn s=stepD s (some 120) 8 zg dn (val (indexAddr Tryz.prog 42 (R s 13) (.int .i64 (1)))) (D 22 zk zg 9):=dR
theorem zph:D 22 zk zg 9 dn s=stepD s (some 121) 9 zg dn (xLoad Tryz.prog 3 s.h.get (R s 120)) (D 22 zk zg 10):=dR
theorem zoO:D 22 zk zg 10 dn s=stepD s (some 122) 10 zg dn (val (indexAddr Tryz.prog 27 (R s 119) (R s 121))) (D 22 zk zg 11):=dR
theorem zoP:D 22 zk zg 11 dn s=stepD s (some 123) 11 zg dn (xLoad Tryz.prog 3 s.h.get (R s 122)) (D 22 zk zg 12):=dR
theorem zoQ:D 22 zk zg 12 dn s=stepD s (some 124) 12 zg dn (some { v:=(R s 10) }) (D 22 zk zg 13):=dR
theorem zoR:D 22 zk zg 13 dn s=stepD s (some 125) 13 zg dn (xNilCheck Tryz.prog (R s 124)) (D 22 zk zg 14):=dR
theorem zoS:D 22 zk zg 14 dn s=stepD s (some 126) 14 zg dn (val (addrAdd (R s 125) 4)) (D 22 zk zg 15):=dR
theorem zoT:D 22 zk zg 15 dn s=stepD s (some 127) 15 zg dn (xLoad Tryz.prog 78 s.h.get (R s 126)) (D 22 zk zg 16):=dR
theorem zoU:D 22 zk zg 16 dn s=stepD s (some 128) 16 zg dn (some { v:=(R s 10) }) (D 22 zk zg 17):=dR
theorem zoV:D 22 zk zg 17 dn s=stepD s (some 129) 17 zg dn (xNilCheck Tryz.prog (R s 128)) (D 22 zk zg 18):=dR
theorem zoW:D 22 zk zg 18 dn s=stepD s (some 130) 18 zg dn (val (addrAdd (R s 129) 2)) (D 22 zk zg 19):=dR
theorem zoX:D 22 zk zg 19 dn s=stepD s (some 131) 19 zg dn (xLoad Tryz.prog 27 s.h.get (R s 130)) (D 22 zk zg 20):=dR
theorem zoZ:D 22 zk zg 20 dn s=stepD s (some 132) 20 zg dn (val (indexAddr Tryz.prog 42 (R s 13) (.int .i64 (1)))) (D 22 zk zg 21):=dR
theorem zo0:D 22 zk zg 21 dn s=stepD s (some 133) 21 zg dn (xLoad Tryz.prog 3 s.h.get (R s 132)) (D 22 zk zg 22):=dR
theorem zo1:D 22 zk zg 22 dn s=stepD s (some 134) 22 zg dn (val (indexAddr Tryz.prog 27 (R s 131) (R s 133))) (D 22 zk zg 23):=dR
theorem zo2:D 22 zk zg 23 dn s=stepD s (some 135) 23 zg dn (xLoad Tryz.prog 3 s.h.get (R s 134)) (D 22 zk zg 24):=dR
theorem zo3:D 22 zk zg 24 dn s=stepD s (some 136) 24 zg dn (val (indexAddr Tryz.prog 78 (R s 127) (R s 135))) (D 22 zk zg 25):=dR
theorem zo4:D 22 zk zg 25 dn s=stepD s (some 137) 25 zg dn (xLoad Tryz.prog 27 s.h.get (R s 136)) (D 22 zk zg 26):=dR
theorem zo5:D 22 zk zg 26 dn s=stepD s (some 138) 26 zg dn (some { v:=(R s 14) }) (D 22 zk zg 27):=dR
theorem zo6:D 22 zk zg 27 dn s=stepD s (some 139) 27 zg dn (litS Tryz.prog false 27 1 [(0,(R s 138))] s.h.n) (D 22 zk zg 28):=dR
theorem zo7:D 22 zk zg 28 dn s=stepD s (some 140) 28 zg dn (builtinV Tryz.prog false s.h.get s.h.n .append [27,27] [(R s 137),(R s 139)]) (D 22 zk zg 29):=dR
theorem zo8:D 22 zk zg 29 dn s=stepD s (some 141) 29 zg dn (val (indexAddr Tryz.prog 78 (R s 115) (R s 123))) (D 22 zk zg 30):=dR
theorem zpa:D 22 zk zg 30 dn s=stepD s none 30 zg dn (xStore Tryz.prog 27 s.h.get (R s 141) (R s 140)) (D 22 zk zg 31):=dR
theorem zpb:D 22 zk zg 31 dn s=some [(.normal,s)]:=JJ (by kernel_rfl) dn s
theorem zpn:C 22 zao s=O 22 zao 0 s:=zb (id:=17) (ops:=regOps zao) (by kernel_rfl) (by kernel_rfl) s
theorem zpj:O 22 zao 0 s=stepV s (some 142) (some { v:=(R s 10) }) (O 22 zao 1):=oR
theorem zpk:O 22 zao 1 s=stepV s (some 143) (some { v:=(R s 14) }) (O 22 zao 2):=oR
theorem zpl:O 22 zao 2 s=thenC (some 144) s (callS Tryz.prog hs ks 48 [(R s 142),(R s 143)] s.h) (O 22 zao 3):=cR
theorem zpm:O 22 zao 3 s=some [(.normal,s)]:=zc (by kernel_rfl) s
theorem znJ:C 22 zbg s=O 22 zbg 0 s:=zb (id:=18) (ops:=regOps zbg) (by kernel_rfl) (by kernel_rfl) s
theorem znG:O 22 zbg 0 s=stepV s (some 145) (val (binV Tryz.prog .add 3 false true (R s 74) (.int .i64 (1)))) (O 22 zbg 1):=oR
theorem znH:O 22 zbg 1 s=stepV s (some 74) (some { v:=(R s 145) }) (O 22 zbg 2):=oR
theorem znI:O 22 zbg 2 s=some [(.normal,s)]:=zc (by kernel_rfl) s
def zpo:Code:=codeA zno
def zpp:Code:=codeB zno
theorem zdo:C 22 zno s=thenV (C 22 zpo s) (C 22 zpp):=za (a:=zpo) (b:=zpp) (by kernel_rfl) _ _
def zap:Code:=codeA zpo
def zxh:Code:=codeB zpo
theorem zdq:C 22 zpo s=thenV (C 22 zap s) (C 22 zxh):=za (a:=zap) (b:=zxh) (by kernel_rfl) _ _
theorem zpu:C 22 zap s=O 22 zap 0 s:=zb (id:=19) (ops:=regOps zap) (by kernel_rfl) (by kernel_rfl) s
theorem zpq:O 22 zap 0 s=stepV s (some 146) (some { v:=(R s 2) }) (O 22 zap 1):=oR
theorem zpr:O 22 zap 1 s=stepV s (some 147) (builtinV Tryz.prog false s.h.get s.h.n .len [22] [(R s 146)]) (O 22 zap 2):=oR
theorem zps:O 22 zap 2 s=stepV s (some 148) (some { v:=(.int .i64 (0)) }) (O 22 zap 3):=oR
theorem zpt:O 22 zap 3 s=some [(.normal,s)]:=zc (by kernel_rfl) s
def zjR:Code:=codeA zxh
theorem zds:C 22 zxh s=blockV 4 (C 22 zjR s):=zu (b:=zjR) (by kernel_rfl) _ _
def zpv:Code:=codeA zjR
theorem zAA:C 22 zjR s=thenV (C 22 zpv s) (C 22 zjR):=ZG (b:=zpv) (by kernel_rfl) _ _
def zcj:Code:=codeA zpv
def zpA:Code:=codeB zpv
theorem zpw:C 22 zpv s=thenV (C 22 zcj s) (C 22 zpA):=za (a:=zcj) (b:=zpA) (by kernel_rfl) _ _
theorem zpz:C 22 zcj s=O 22 zcj 0 s:=zb (id:=20) (ops:=regOps zcj) (by kernel_rfl) (by kernel_rfl) s
theorem zpx:O 22 zcj 0 s=stepV s (some 149) (val (binV Tryz.prog .lss 3 false false (R s 148) (R s 147))) (O 22 zcj 1):=oR
theorem zpy:O 22 zcj 1 s=some [(.normal,s)]:=zc (by kernel_rfl) s
def zpD:Code:=codeA zpA
def zpF:Code:=codeB zpA
theorem zpB:C 22 zpA s=thenV (C 22 zpD s) (C 22 zpF):=za (a:=zpD) (b:=zpF) (by kernel_rfl) _ _
def zAB:Code:=codeA zpD
def zAC:Code:=codeB zpD
theorem zpE:C 22 zpD s=condV (R s 149) (C 22 zAB) (C 22 zAC) s:=zl (t:=149) (a:=zAB) (b:=zAC) (by kernel_rfl) _ _
theorem zpG:C 22 zAB s=some [(.normal,s)]:=zp (by kernel_rfl) _ _
theorem zpH:C 22 zAC s=some [(.exit 4,s)]:=Zx (by kernel_rfl) _ _
def zxi:Code:=codeA zpF
def zbh:Code:=codeB zpF
theorem zck:C 22 zpF s=thenV (C 22 zxi s) (C 22 zbh):=za (a:=zxi) (b:=zbh) (by kernel_rfl) _ _
def zpM:Code:=codeA zxi
theorem zjS:C 22 zxi s=blockV 5 (C 22 zpM s):=zu (b:=zpM) (by kernel_rfl) _ _
def Qz:Code:=codeA zpM
def zpV:Code:=codeB zpM
theorem zdu:C 22 zpM s=thenV (C 22 Qz s) (C 22 zpV):=za (a:=Qz) (b:=zpV) (by kernel_rfl) _ _
theorem zpU:C 22 Qz s=O 22 Qz 0 s:=zb (id:=21) (ops:=regOps Qz) (by kernel_rfl) (by kernel_rfl) s
theorem zpN:O 22 Qz 0 s=stepV s (some 150) (some { v:=(R s 148) }) (O 22 Qz 1):=oR
theorem zpO:O 22 Qz 1 s=stepV s (some 151) (val (indexAddr Tryz.prog 22 (R s 146) (R s 148))) (O 22 Qz 2):=oR
theorem zpP:O 22 Qz 2 s=stepV s (some 152) (xLoad Tryz.prog 42 s.h.get (R s 151)) (O 22 Qz 3):=oR
theorem zpQ:O 22 Qz 3 s=stepV s (some 16) (some { v:=.ptr s.h.n 0,nw:=[.row 0 [.int .i64 (0),.int .i64 (0)]] }) (O 22 Qz 4):=oR
theorem zpR:O 22 Qz 4 s=stepV s (some 15) (some { v:=(R s 150) }) (O 22 Qz 5):=oR
theorem zpS:O 22 Qz 5 s=stepV s none (xStore Tryz.prog 42 s.h.get (R s 16) (R s 152)) (O 22 Qz 6):=oR
theorem zpT:O 22 Qz 6 s=some [(.normal,s)]:=zc (by kernel_rfl) s
def zaq:Code:=codeA zpV
def zp3:Code:=codeB zpV
theorem zpW:C 22 zpV s=thenV (C 22 zaq s) (C 22 zp3):=za (a:=zaq) (b:=zp3) (by kernel_rfl) _ _
theorem zp1:C 22 zaq s=O 22 zaq 0 s:=zb (id:=22) (ops:=regOps zaq) (by kernel_rfl) (by kernel_rfl) s
theorem zpX:O 22 zaq 0 s=stepV s (some 153) (some { v:=(R s 3) }) (O 22 zaq 1):=oR
theorem zpY:O 22 zaq 1 s=stepV s (some 154) (some { v:=(R s 15) }) (O 22 zaq 2):=oR
theorem zpZ:O 22 zaq 2 s=thenC (some 155) s (callX Tryz.prog hs ks (callOf (R s 153) [(R s 154)]) s.h) (O 22 zaq 3):=xR
theorem zp0:O 22 zaq 3 s=some [(.normal,s)]:=zc (by kernel_rfl) s
def Qg:Code:=codeA zp3
def zAD:Code:=codeB zp3
theorem zp4:C 22 zp3 s=condV (R s 155) (C 22 Qg) (C 22 zAD) s:=zl (t:=155) (a:=Qg) (b:=zAD) (by kernel_rfl) _ _
theorem zqe:C 22 Qg s=O 22 Qg 0 s:=zb (id:=23) (ops:=regOps Qg) (by kernel_rfl) (by kernel_rfl) s
theorem zp5:O 22 Qg 0 s=stepV s (some 156) (some { v:=(R s 10) }) (O 22 Qg 1):=oR
theorem zp6:O 22 Qg 1 s=stepV s (some 157) (val (indexAddr Tryz.prog 42 (R s 16) (.int .i64 (0)))) (O 22 Qg 2):=oR
theorem zp7:O 22 Qg 2 s=stepV s (some 158) (xLoad Tryz.prog 3 s.h.get (R s 157)) (O 22 Qg 3):=oR
theorem zp8:O 22 Qg 3 s=stepV s (some 159) (val (indexAddr Tryz.prog 42 (R s 16) (.int .i64 (1)))) (O 22 Qg 4):=oR
theorem zp9:O 22 Qg 4 s=stepV s (some 160) (xLoad Tryz.prog 3 s.h.get (R s 159)) (O 22 Qg 5):=oR
theorem zqa:O 22 Qg 5 s=stepV s (some 161) (some { v:=(R s 15) }) (O 22 Qg 6):=oR
theorem zqb:O 22 Qg 6 s=stepV s (some 162) (val (build Tryz.prog 126 [(0,(R s 158)),(1,(R s 160)),(2,(R s 161))])) (O 22 Qg 7):=oR
theorem zqc:O 22 Qg 7 s=thenC (some 163) s (callS Tryz.prog hs ks 49 [(R s 156),(R s 162)] s.h) (O 22 Qg 8):=cR
theorem zqd:O 22 Qg 8 s=some [(.normal,s)]:=zc (by kernel_rfl) s
theorem zqf:C 22 zAD s=some [(.normal,s)]:=zp (by kernel_rfl) _ _
theorem zpL:C 22 zbh s=O 22 zbh 0 s:=zb (id:=24) (ops:=regOps zbh) (by kernel_rfl) (by kernel_rfl) s
theorem zpI:O 22 zbh 0 s=stepV s (some 164) (val (binV Tryz.prog .add 3 false true (R s 148) (.int .i64 (1)))) (O 22 zbh 1):=oR
theorem zpJ:O 22 zbh 1 s=stepV s (some 148) (some { v:=(R s 164) }) (O 22 zbh 2):=oR
theorem zpK:O 22 zbh 2 s=some [(.normal,s)]:=zc (by kernel_rfl) s
def zbi:Code:=codeA zpp
def zAE:Code:=codeB zpp
theorem zdr:C 22 zpp s=thenV (C 22 zbi s) (C 22 zAE):=za (a:=zbi) (b:=zAE) (by kernel_rfl) _ _
theorem zqj:C 22 zbi s=O 22 zbi 0 s:=zb (id:=25) (ops:=regOps zbi) (by kernel_rfl) (by kernel_rfl) s
theorem zqg:O 22 zbi 0 s=stepV s (some 165) (some { v:=(R s 10) }) (O 22 zbi 1):=oR
theorem zqh:O 22 zbi 1 s=stepV s (some 8) (some { v:=(R s 165) }) (O 22 zbi 2):=oR
theorem zqi:O 22 zbi 2 s=some [(.normal,s)]:=zc (by kernel_rfl) s
theorem zqk:C 22 zAE s=some [(.ret,s)]:=Zb (by kernel_rfl) _ _
end Go.Proofs.YtdlaladdeelegaaGreat.Cg
end
noncomputable section
namespace Go.Proofs.YtdlaladdeelegaaGreat.Cg
open Go Go.Ae
variable (dn:List (Nat×Foot)) (s:St)
def k10:Code:=Tryz.f10.body.getD .skip
theorem zE9 (args:List V) (ha:args.length≤23) (h:H):(EV Tryz.prog hs ks).call 10 args h=endsV Tryz.prog hs ks Tryz.f10 (C 10 k10 (S 23 (setF args 0 fun _=> undefV) [] h)):=Qu Tryz.func10 (by kernel_rfl) (by kernel_rfl) (by decide) rfl ha h
theorem zFa (f:Nat→V) (h:H):endsV Tryz.prog hs ks Tryz.f10 (some [(.ret,S 23 f [] h)])=resV (resultVs Tryz.prog (S 23 f [] h) [.tmp 6,.tmp 7]) h:=Zc (by kernel_rfl) (Or.inl rfl) _ _
def za8:Code:=codeA k10
def zkT:Code:=codeB k10
theorem zw0:C 10 k10 s=thenV (C 10 za8 s) (C 10 zkT):=za (a:=za8) (b:=zkT) (by kernel_rfl) _ _
theorem zEC:C 10 za8 s=O 10 za8 0 s:=zb (id:=0) (ops:=regOps za8) (by kernel_rfl) (by kernel_rfl) s
theorem zEz:O 10 za8 0 s=stepV s (some 6) (some { v:=(.nils) }) (O 10 za8 1):=oR
theorem zEA:O 10 za8 1 s=stepV s (some 7) (some { v:=(.int .i64 (0)) }) (O 10 za8 2):=oR
theorem zEB:O 10 za8 2 s=some [(.normal,s)]:=zc (by kernel_rfl) s
def zkU:Code:=codeA zkT
def zkV:Code:=codeB zkT
theorem zjz:C 10 zkT s=thenV (C 10 zkU s) (C 10 zkV):=za (a:=zkU) (b:=zkV) (by kernel_rfl) _ _
def QK:Code:=codeA zkU
def zkW:Code:=codeB zkU
theorem zjA:C 10 zkU s=thenV (C 10 QK s) (C 10 zkW):=za (a:=QK) (b:=zkW) (by kernel_rfl) _ _
theorem zE1:C 10 QK s=O 10 QK 0 s:=zb (id:=1) (ops:=regOps QK) (by kernel_rfl) (by kernel_rfl) s
theorem zEV:O 10 QK 0 s=stepV s (some 9) (some { v:=(R s 0) }) (O 10 QK 1):=oR
theorem zEW:O 10 QK 1 s=stepV s (some 10) (some { v:=(R s 1) }) (O 10 QK 2):=oR
theorem zEX:O 10 QK 2 s=stepV s (some 11) (some { v:=(R s 2) }) (O 10 QK 3):=oR
theorem zEY:O 10 QK 3 s=thenC (some 12) s (callS Tryz.prog hs ks 25 [(R s 9),(R s 10),(R s 11)] s.h) (O 10 QK 4):=cR
theorem zEZ:O 10 QK 4 s=stepV s (some 8) (some { v:=(R s 12) }) (O 10 QK 5):=oR
theorem zE0:O 10 QK 5 s=some [(.normal,s)]:=zc (by kernel_rfl) s
def za9:Code:=codeA zkW
def zkX:Code:=codeB zkW
theorem zjC:C 10 zkW s=thenV (C 10 za9 s) (C 10 zkX):=za (a:=za9) (b:=zkX) (by kernel_rfl) _ _
theorem zE5:C 10 za9 s=O 10 za9 0 s:=zb (id:=2) (ops:=regOps za9) (by kernel_rfl) (by kernel_rfl) s
theorem zE2:O 10 za9 0 s=stepV s (some 13) (some { v:=(R s 8) }) (O 10 za9 1):=oR
theorem zE3:O 10 za9 1 s=stepV s (some 14) (val (binV Tryz.prog .neq 3 false true (R s 13) (.int .i64 (0)))) (O 10 za9 2):=oR
theorem zE4:O 10 za9 2 s=some [(.normal,s)]:=zc (by kernel_rfl) s
def zkY:Code:=codeA zkX
def zzk:Code:=codeB zkX
theorem zE6:C 10 zkX s=condV (R s 14) (C 10 zkY) (C 10 zzk) s:=zl (t:=14) (a:=zkY) (b:=zzk) (by kernel_rfl) _ _
def zah:Code:=codeA zkY
def zzi:Code:=codeB zkY
theorem zE7:C 10 zkY s=thenV (C 10 zah s) (C 10 zzi):=za (a:=zah) (b:=zzi) (by kernel_rfl) _ _
theorem zEH:C 10 zah s=O 10 zah 0 s:=zb (id:=3) (ops:=regOps zah) (by kernel_rfl) (by kernel_rfl) s
theorem zED:O 10 zah 0 s=stepV s (some 15) (some { v:=(R s 8) }) (O 10 zah 1):=oR
theorem zEE:O 10 zah 1 s=stepV s (some 6) (some { v:=(.nils) }) (O 10 zah 2):=oR
theorem zEF:O 10 zah 2 s=stepV s (some 7) (some { v:=(R s 15) }) (O 10 zah 3):=oR
theorem zEG:O 10 zah 3 s=some [(.normal,s)]:=zc (by kernel_rfl) s
theorem zEI:C 10 zzi s=some [(.ret,s)]:=Zb (by kernel_rfl) _ _
theorem zE8:C 10 zzk s=some [(.normal,s)]:=zp (by kernel_rfl) _ _
def J2:Code:=codeA zkV
def zzj:Code:=codeB zkV
theorem zjB:C 10 zkV s=thenV (C 10 J2 s) (C 10 zzj):=za (a:=J2) (b:=zzj) (by kernel_rfl) _ _
theorem zET:C 10 J2 s=O 10 J2 0 s:=zb (id:=4) (ops:=regOps J2) (by kernel_rfl) (by kernel_rfl) s
theorem zEJ:O 10 J2 0 s=stepV s (some 16) (some { v:=(R s 0) }) (O 10 J2 1):=oR
theorem zEK:O 10 J2 1 s=stepV s (some 17) (some { v:=(R s 1) }) (O 10 J2 2):=oR
theorem zEL:O 10 J2 2 s=stepV s (some 18) (some { v:=(R s 2) }) (O 10 J2 3):=oR
theorem zEM:O 10 J2 3 s=stepV s (some 19) (some { v:=(R s 2) }) (O 10 J2 4):=oR
theorem zEN:O 10 J2 4 s=stepV s (some 20) (builtinV Tryz.prog false s.h.get s.h.n .len [22] [(R s 19)]) (O 10 J2 5):=oR
theorem zEO:O 10 J2 5 s=thenC (some 21) s (callS Tryz.prog hs ks 27 [(R s 20)] s.h) (O 10 J2 6):=cR
theorem zEP:O 10 J2 6 s=thenC (some 22) s (callS Tryz.prog hs ks 26 [(R s 16),(R s 17),(R s 18),(R s 21)] s.h) (O 10 J2 7):=cR
theorem zEQ:O 10 J2 7 s=stepV s (some 6) (some { v:=(R s 22) }) (O 10 J2 8):=oR
theorem zER:O 10 J2 8 s=stepV s (some 7) (some { v:=(.int .i64 (0)) }) (O 10 J2 9):=oR
theorem zES:O 10 J2 9 s=some [(.normal,s)]:=zc (by kernel_rfl) s
theorem zEU:C 10 zzj s=some [(.ret,s)]:=Zb (by kernel_rfl) _ _
def k11:Code:=Tryz.f11.body.getD .skip
theorem zRl (args:List V) (ha:args.length≤26) (h:H):(EV Tryz.prog hs ks).call 11 args h=endsV Tryz.prog hs ks Tryz.f11 (C 11 k11 (S 26 (setF args 0 fun _=> undefV) [] h)):=Qu Tryz.func11 (by kernel_rfl) (by kernel_rfl) (by decide) rfl ha h
theorem zw6 (f:Nat→V) (h:H):endsV Tryz.prog hs ks Tryz.f11 (some [(.ret,S 26 f [] h)])=resV (resultVs Tryz.prog (S 26 f [] h) [.tmp 4]) h:=Zc (by kernel_rfl) (Or.inl rfl) _ _
def zb3:Code:=codeA k11
def zkZ:Code:=codeB k11
theorem zw5:C 11 k11 s=thenV (C 11 zb3 s) (C 11 zkZ):=za (a:=zb3) (b:=zkZ) (by kernel_rfl) _ _
theorem zw2:C 11 zb3 s=O 11 zb3 0 s:=zb (id:=0) (ops:=regOps zb3) (by kernel_rfl) (by kernel_rfl) s
theorem zzl:O 11 zb3 0 s=stepV s (some 4) (some { v:=(.bool false) }) (O 11 zb3 1):=oR
theorem zzm:O 11 zb3 1 s=some [(.normal,s)]:=zc (by kernel_rfl) s
def zk6:Code:=codeA zkZ
def zld:Code:=codeB zkZ
theorem zdk:C 11 zkZ s=thenV (C 11 zk6 s) (C 11 zld):=za (a:=zk6) (b:=zld) (by kernel_rfl) _ _
def QL:Code:=codeA zk6
def zle:Code:=codeB zk6
theorem zdl:C 11 zk6 s=thenV (C 11 QL s) (C 11 zle):=za (a:=QL) (b:=zle) (by kernel_rfl) _ _
theorem zAc:C 11 QL s=O 11 QL 0 s:=zb (id:=1) (ops:=regOps QL) (by kernel_rfl) (by kernel_rfl) s
theorem zz6:O 11 QL 0 s=stepV s (some 6) (some { v:=(R s 0) }) (O 11 QL 1):=oR
theorem zz7:O 11 QL 1 s=stepV s (some 7) (builtinV Tryz.prog false s.h.get s.h.n .len [27] [(R s 6)]) (O 11 QL 2):=oR
theorem zz8:O 11 QL 2 s=stepV s (some 8) (some { v:=(R s 1) }) (O 11 QL 3):=oR
theorem zz9:O 11 QL 3 s=stepV s (some 9) (builtinV Tryz.prog false s.h.get s.h.n .len [27] [(R s 8)]) (O 11 QL 4):=oR
theorem zAa:O 11 QL 4 s=stepV s (some 10) (val (binV Tryz.prog .neq 3 false false (R s 7) (R s 9))) (O 11 QL 5):=oR
theorem zAb:O 11 QL 5 s=some [(.normal,s)]:=zc (by kernel_rfl) s
def zlf:Code:=codeA zle
def zAe:Code:=codeB zle
theorem zAd:C 11 zle s=condV (R s 10) (C 11 zlf) (C 11 zAe) s:=zl (t:=10) (a:=zlf) (b:=zAe) (by kernel_rfl) _ _
theorem zAf:C 11 zAe s=some [(.normal,s)]:=zp (by kernel_rfl) _ _
def zk0:Code:=codeA zld
def zk1:Code:=codeB zld
theorem zdm:C 11 zld s=thenV (C 11 zk0 s) (C 11 zk1):=za (a:=zk0) (b:=zk1) (by kernel_rfl) _ _
def zai:Code:=codeA zk0
def zw3:Code:=codeB zk0
theorem zdh:C 11 zk0 s=thenV (C 11 zai s) (C 11 zw3):=za (a:=zai) (b:=zw3) (by kernel_rfl) _ _
theorem zzr:C 11 zai s=O 11 zai 0 s:=zb (id:=3) (ops:=regOps zai) (by kernel_rfl) (by kernel_rfl) s
theorem zzn:O 11 zai 0 s=stepV s (some 11) (some { v:=(R s 0) }) (O 11 zai 1):=oR
theorem zzo:O 11 zai 1 s=stepV s (some 12) (builtinV Tryz.prog false s.h.get s.h.n .len [27] [(R s 11)]) (O 11 zai 2):=oR
theorem zzp:O 11 zai 2 s=stepV s (some 13) (some { v:=(.int .i64 (0)) }) (O 11 zai 3):=oR
theorem zzq:O 11 zai 3 s=some [(.normal,s)]:=zc (by kernel_rfl) s
def zjD:Code:=codeA zw3
theorem zdj:C 11 zw3 s=blockV 0 (C 11 zjD s):=zu (b:=zjD) (by kernel_rfl) _ _
def zk2:Code:=codeA zjD
theorem zzs:C 11 zjD s=thenV (C 11 zk2 s) (C 11 zjD):=ZG (b:=zk2) (by kernel_rfl) _ _
def zb4:Code:=codeA zk2
def zk3:Code:=codeB zk2
theorem zzt:C 11 zk2 s=thenV (C 11 zb4 s) (C 11 zk3):=za (a:=zb4) (b:=zk3) (by kernel_rfl) _ _
theorem zzw:C 11 zb4 s=O 11 zb4 0 s:=zb (id:=4) (ops:=regOps zb4) (by kernel_rfl) (by kernel_rfl) s
theorem zzu:O 11 zb4 0 s=stepV s (some 14) (val (binV Tryz.prog .lss 3 false false (R s 13) (R s 12))) (O 11 zb4 1):=oR
theorem zzv:O 11 zb4 1 s=some [(.normal,s)]:=zc (by kernel_rfl) s
def zk4:Code:=codeA zk3
def zk5:Code:=codeB zk3
theorem zzx:C 11 zk3 s=thenV (C 11 zk4 s) (C 11 zk5):=za (a:=zk4) (b:=zk5) (by kernel_rfl) _ _
def zzA:Code:=codeA zk4
def zzC:Code:=codeB zk4
theorem zzy:C 11 zk4 s=condV (R s 14) (C 11 zzA) (C 11 zzC) s:=zl (t:=14) (a:=zzA) (b:=zzC) (by kernel_rfl) _ _
theorem zzB:C 11 zzA s=some [(.normal,s)]:=zp (by kernel_rfl) _ _
theorem zzD:C 11 zzC s=some [(.exit 0,s)]:=Zx (by kernel_rfl) _ _
def zw4:Code:=codeA zk5
def zba:Code:=codeB zk5
theorem zzz:C 11 zk5 s=thenV (C 11 zw4 s) (C 11 zba):=za (a:=zw4) (b:=zba) (by kernel_rfl) _ _
def zk9:Code:=codeA zw4
theorem zk7:C 11 zw4 s=blockV 1 (C 11 zk9 s):=zu (b:=zk9) (by kernel_rfl) _ _
def zbb:Code:=codeA zk9
def zla:Code:=codeB zk9
theorem zzH:C 11 zk9 s=thenV (C 11 zbb s) (C 11 zla):=za (a:=zbb) (b:=zla) (by kernel_rfl) _ _
theorem zzL:C 11 zbb s=O 11 zbb 0 s:=zb (id:=5) (ops:=regOps zbb) (by kernel_rfl) (by kernel_rfl) s
theorem zzI:O 11 zbb 0 s=stepV s (some 15) (some { v:=(R s 13) }) (O 11 zbb 1):=oR
theorem zzJ:O 11 zbb 1 s=stepV s (some 5) (some { v:=(R s 15) }) (O 11 zbb 2):=oR
theorem zzK:O 11 zbb 2 s=some [(.normal,s)]:=zc (by kernel_rfl) s
def J3:Code:=codeA zla
def zlb:Code:=codeB zla
theorem zzM:C 11 zla s=thenV (C 11 J3 s) (C 11 zlb):=za (a:=J3) (b:=zlb) (by kernel_rfl) _ _
def JP:List Nat:=[0,0,3,7,0,0,48,112,255]
theorem zzX:C 11 J3 s=D 11 J3 JP 0 [] s:=JI (id:=6) (ops:=regOps J3) (by kernel_rfl) (by kernel_rfl) (by kernel_rfl) (by kernel_rfl) s
theorem zzN:D 11 J3 JP 0 dn s=stepD s (some 16) 0 JP dn (some { v:=(R s 0) }) (D 11 J3 JP 1):=dR
theorem zzO:D 11 J3 JP 1 dn s=stepD s (some 17) 1 JP dn (some { v:=(R s 5) }) (D 11 J3 JP 2):=dR
theorem zzP:D 11 J3 JP 2 dn s=stepD s (some 18) 2 JP dn (val (indexAddr Tryz.prog 27 (R s 16) (R s 17))) (D 11 J3 JP 3):=dR
theorem zzQ:D 11 J3 JP 3 dn s=stepD s (some 19) 3 JP dn (xLoad Tryz.prog 3 s.h.get (R s 18)) (D 11 J3 JP 4):=dR
theorem zzR:D 11 J3 JP 4 dn s=stepD s (some 20) 4 JP dn (some { v:=(R s 1) }) (D 11 J3 JP 5):=dR
theorem zzS:D 11 J3 JP 5 dn s=stepD s (some 21) 5 JP dn (some { v:=(R s 5) }) (D 11 J3 JP 6):=dR
theorem zzT:D 11 J3 JP 6 dn s=stepD s (some 22) 6 JP dn (val (indexAddr Tryz.prog 27 (R s 20) (R s 21))) (D 11 J3 JP 7):=dR
theorem zzU:D 11 J3 JP 7 dn s=stepD s (some 23) 7 JP dn (xLoad Tryz.prog 3 s.h.get (R s 22)) (D 11 J3 JP 8):=dR
theorem zzV:D 11 J3 JP 8 dn s=stepD s (some 24) 8 JP dn (val (binV Tryz.prog .neq 3 false false (R s 19) (R s 23))) (D 11 J3 JP 9):=dR
theorem zzW:D 11 J3 JP 9 dn s=some [(.normal,s)]:=JJ (by kernel_rfl) dn s
def zlc:Code:=codeA zlb
def zzZ:Code:=codeB zlb
theorem zzY:C 11 zlb s=condV (R s 24) (C 11 zlc) (C 11 zzZ) s:=zl (t:=24) (a:=zlc) (b:=zzZ) (by kernel_rfl) _ _
theorem zz0:C 11 zzZ s=some [(.normal,s)]:=zp (by kernel_rfl) _ _
theorem zk8:C 11 zba s=O 11 zba 0 s:=zb (id:=8) (ops:=regOps zba) (by kernel_rfl) (by kernel_rfl) s
theorem zzE:O 11 zba 0 s=stepV s (some 25) (val (binV Tryz.prog .add 3 false true (R s 13) (.int .i64 (1)))) (O 11 zba 1):=oR
theorem zzF:O 11 zba 1 s=stepV s (some 13) (some { v:=(R s 25) }) (O 11 zba 2):=oR
theorem zzG:O 11 zba 2 s=some [(.normal,s)]:=zc (by kernel_rfl) s
def zb5:Code:=codeA zk1
def zz4:Code:=codeB zk1
theorem zdi:C 11 zk1 s=thenV (C 11 zb5 s) (C 11 zz4):=za (a:=zb5) (b:=zz4) (by kernel_rfl) _ _
theorem zz3:C 11 zb5 s=O 11 zb5 0 s:=zb (id:=9) (ops:=regOps zb5) (by kernel_rfl) (by kernel_rfl) s
theorem zz1:O 11 zb5 0 s=stepV s (some 4) (some { v:=(.bool true) }) (O 11 zb5 1):=oR
theorem zz2:O 11 zb5 1 s=some [(.normal,s)]:=zc (by kernel_rfl) s
theorem zz5:C 11 zz4 s=some [(.ret,s)]:=Zb (by kernel_rfl) _ _
def k25:Code:=Tryz.f25.body.getD .skip
theorem zSu (args:List V) (ha:args.length≤86) (h:H):(EV Tryz.prog hs ks).call 25 args h=endsV Tryz.prog hs ks Tryz.f25 (C 25 k25 (S 86 (setF args 0 fun _=> undefV) [] h)):=Qu Tryz.func25 (by kernel_rfl) (by kernel_rfl) (by decide) rfl ha h
theorem zA5 (f:Nat→V) (h:H):endsV Tryz.prog hs ks Tryz.f25 (some [(.ret,S 86 f [] h)])=resV (resultVs Tryz.prog (S 86 f [] h) [.tmp 6]) h:=Zc (by kernel_rfl) (Or.inl rfl) _ _
def zcq:Code:=codeA k25
def zqB:Code:=codeB k25
theorem zxC:C 25 k25 s=thenV (C 25 zcq s) (C 25 zqB):=za (a:=zcq) (b:=zqB) (by kernel_rfl) _ _
theorem zxp:C 25 zcq s=O 25 zcq 0 s:=zb (id:=0) (ops:=regOps zcq) (by kernel_rfl) (by kernel_rfl) s
theorem zHu:O 25 zcq 0 s=stepV s (some 6) (some { v:=(.int .i64 (0)) }) (O 25 zcq 1):=oR
theorem zHv:O 25 zcq 1 s=some [(.normal,s)]:=zc (by kernel_rfl) s
def zqM:Code:=codeA zqB
def zqS:Code:=codeB zqB
theorem zjW:C 25 zqB s=thenV (C 25 zqM s) (C 25 zqS):=za (a:=zqM) (b:=zqS) (by kernel_rfl) _ _
def zbm:Code:=codeA zqM
def zq5:Code:=codeB zqM
theorem zjY:C 25 zqM s=thenV (C 25 zbm s) (C 25 zq5):=za (a:=zbm) (b:=zq5) (by kernel_rfl) _ _
theorem zIS:C 25 zbm s=O 25 zbm 0 s:=zb (id:=1) (ops:=regOps zbm) (by kernel_rfl) (by kernel_rfl) s
theorem zIP:O 25 zbm 0 s=stepV s (some 11) (some { v:=(R s 0) }) (O 25 zbm 1):=oR
theorem zIQ:O 25 zbm 1 s=stepV s (some 12) (val (binV Tryz.prog .lss 3 false true (R s 11) (.int .i64 (0)))) (O 25 zbm 2):=oR
theorem zIR:O 25 zbm 2 s=some [(.normal,s)]:=zc (by kernel_rfl) s
def zre:Code:=codeA zq5
def zAY:Code:=codeB zq5
theorem zI3:C 25 zq5 s=condV (R s 12) (C 25 zre) (C 25 zAY) s:=zl (t:=12) (a:=zre) (b:=zAY) (by kernel_rfl) _ _
def zcw:Code:=codeA zre
def zA4:Code:=codeB zre
theorem zJk:C 25 zre s=thenV (C 25 zcw s) (C 25 zA4):=za (a:=zcw) (b:=zA4) (by kernel_rfl) _ _
theorem zKc:C 25 zcw s=O 25 zcw 0 s:=zb (id:=2) (ops:=regOps zcw) (by kernel_rfl) (by kernel_rfl) s
theorem zKa:O 25 zcw 0 s=stepV s (some 6) (some { v:=(.int .i64 (2)) }) (O 25 zcw 1):=oR
theorem zKb:O 25 zcw 1 s=some [(.normal,s)]:=zc (by kernel_rfl) s
theorem zKd:C 25 zA4 s=some [(.ret,s)]:=Zb (by kernel_rfl) _ _
theorem zJC:C 25 zAY s=some [(.normal,s)]:=zp (by kernel_rfl) _ _
def zqC:Code:=codeA zqS
def zqE:Code:=codeB zqS
theorem zq0:C 25 zqS s=thenV (C 25 zqC s) (C 25 zqE):=za (a:=zqC) (b:=zqE) (by kernel_rfl) _ _
def zZ:Code:=codeA zqC
def zqG:Code:=codeB zqC
theorem zqD:C 25 zqC s=thenV (C 25 zZ s) (C 25 zqG):=za (a:=zZ) (b:=zqG) (by kernel_rfl) _ _
theorem zHL:C 25 zZ s=O 25 zZ 0 s:=zb (id:=3) (ops:=regOps zZ) (by kernel_rfl) (by kernel_rfl) s
theorem zHw:O 25 zZ 0 s=stepV s (some 13) (some { v:=(R s 0) }) (O 25 zZ 1):=oR
theorem zHx:O 25 zZ 1 s=stepV s (some 14) (val (binV Tryz.prog .gtr 3 false true (R s 13) (.int .i64 (2000)))) (O 25 zZ 2):=oR
theorem zHD:O 25 zZ 2 s=stepV s (some 15) (some { v:=(R s 14) }) (O 25 zZ 3):=oR
theorem zHE:O 25 zZ 3 s=if wantB (R s 15) false=true then stepV s (some 16) (some { v:=(R s 0) }) (O 25 zZ 4) else O 25 zZ 4 (skipS s (some 16)):=oI
theorem zHF:O 25 zZ 4 s=if wantB (R s 15) false=true then stepV s (some 17) (some { v:=(R s 1) }) (O 25 zZ 5) else O 25 zZ 5 (skipS s (some 17)):=oI
theorem zHG:O 25 zZ 5 s=if wantB (R s 15) false=true then stepV s (some 18) (builtinV Tryz.prog false s.h.get s.h.n .len [22] [(R s 17)]) (O 25 zZ 6) else O 25 zZ 6 (skipS s (some 18)):=oI
theorem zHH:O 25 zZ 6 s=if wantB (R s 15) false=true then stepV s (some 19) (val (binV Tryz.prog .add 3 false false (R s 16) (R s 18))) (O 25 zZ 7) else O 25 zZ 7 (skipS s (some 19)):=oI
theorem zHI:O 25 zZ 7 s=if wantB (R s 15) false=true then stepV s (some 20) (val (binV Tryz.prog .gtr 3 false true (R s 19) (.int .i64 (2000)))) (O 25 zZ 8) else O 25 zZ 8 (skipS s (some 20)):=oI
theorem zHJ:O 25 zZ 8 s=stepV s (some 21) (xPick (R s 15) (.bool true) (R s 20)) (O 25 zZ 9):=oR
theorem zHK:O 25 zZ 9 s=stepV s (some 22) (some { v:=(R s 21) }) (O 25 zZ 10):=oR
theorem zHy:O 25 zZ 10 s=if wantB (R s 22) false=true then stepV s (some 23) (some { v:=(R s 2) }) (O 25 zZ 11) else O 25 zZ 11 (skipS s (some 23)):=oI
theorem zHz:O 25 zZ 11 s=if wantB (R s 22) false=true then stepV s (some 24) (builtinV Tryz.prog false s.h.get s.h.n .len [22] [(R s 23)]) (O 25 zZ 12) else O 25 zZ 12 (skipS s (some 24)):=oI
theorem zHA:O 25 zZ 12 s=if wantB (R s 22) false=true then stepV s (some 25) (val (binV Tryz.prog .gtr 3 false true (R s 24) (.int .i64 (2000)))) (O 25 zZ 13) else O 25 zZ 13 (skipS s (some 25)):=oI
theorem zHB:O 25 zZ 13 s=stepV s (some 26) (xPick (R s 22) (.bool true) (R s 25)) (O 25 zZ 14):=oR
theorem zHC:O 25 zZ 14 s=some [(.normal,s)]:=zc (by kernel_rfl) s
def zqH:Code:=codeA zqG
def zAN:Code:=codeB zqG
theorem zHM:C 25 zqG s=condV (R s 26) (C 25 zqH) (C 25 zAN) s:=zl (t:=26) (a:=zqH) (b:=zAN) (by kernel_rfl) _ _
theorem zHN:C 25 zAN s=some [(.normal,s)]:=zp (by kernel_rfl) _ _
def zqI:Code:=codeA zqE
def zqK:Code:=codeB zqE
theorem zqF:C 25 zqE s=thenV (C 25 zqI s) (C 25 zqK):=za (a:=zqI) (b:=zqK) (by kernel_rfl) _ _
def zcr:Code:=codeA zqI
def zxq:Code:=codeB zqI
theorem zqJ:C 25 zqI s=thenV (C 25 zcr s) (C 25 zxq):=za (a:=zcr) (b:=zxq) (by kernel_rfl) _ _
theorem zHQ:C 25 zcr s=O 25 zcr 0 s:=zb (id:=5) (ops:=regOps zcr) (by kernel_rfl) (by kernel_rfl) s
theorem zHO:O 25 zcr 0 s=stepV s (some 7) (some { v:=(.int .i64 (0)) }) (O 25 zcr 1):=oR
theorem zHP:O 25 zcr 1 s=some [(.normal,s)]:=zc (by kernel_rfl) s
def zjX:Code:=codeA zxq
theorem zqN:C 25 zxq s=blockV 0 (C 25 zjX s):=zu (b:=zjX) (by kernel_rfl) _ _
def zqO:Code:=codeA zjX
theorem zHR:C 25 zjX s=thenV (C 25 zqO s) (C 25 zjX):=ZG (b:=zqO) (by kernel_rfl) _ _
def zqP:Code:=codeA zqO
def zqQ:Code:=codeB zqO
theorem zHS:C 25 zqO s=thenV (C 25 zqP s) (C 25 zqQ):=za (a:=zqP) (b:=zqQ) (by kernel_rfl) _ _
def Q2:Code:=codeA zqP
def zqR:Code:=codeB zqP
theorem zHT:C 25 zqP s=thenV (C 25 Q2 s) (C 25 zqR):=za (a:=Q2) (b:=zqR) (by kernel_rfl) _ _
theorem zHZ:C 25 Q2 s=O 25 Q2 0 s:=zb (id:=6) (ops:=regOps Q2) (by kernel_rfl) (by kernel_rfl) s
theorem zHU:O 25 Q2 0 s=stepV s (some 27) (some { v:=(R s 7) }) (O 25 Q2 1):=oR
theorem zHV:O 25 Q2 1 s=stepV s (some 28) (some { v:=(R s 1) }) (O 25 Q2 2):=oR
theorem zHW:O 25 Q2 2 s=stepV s (some 29) (builtinV Tryz.prog false s.h.get s.h.n .len [22] [(R s 28)]) (O 25 Q2 3):=oR
theorem zHX:O 25 Q2 3 s=stepV s (some 30) (val (binV Tryz.prog .lss 3 false false (R s 27) (R s 29))) (O 25 Q2 4):=oR
theorem zHY:O 25 Q2 4 s=some [(.normal,s)]:=zc (by kernel_rfl) s
def zAO:Code:=codeA zqR
def zAP:Code:=codeB zqR
theorem zH0:C 25 zqR s=condV (R s 30) (C 25 zAO) (C 25 zAP) s:=zl (t:=30) (a:=zAO) (b:=zAP) (by kernel_rfl) _ _
theorem zH1:C 25 zAO s=some [(.normal,s)]:=zp (by kernel_rfl) _ _
theorem zH2:C 25 zAP s=some [(.exit 0,s)]:=Zx (by kernel_rfl) _ _
def zxs:Code:=codeA zqQ
def zat:Code:=codeB zqQ
theorem zxr:C 25 zqQ s=thenV (C 25 zxs s) (C 25 zat):=za (a:=zxs) (b:=zat) (by kernel_rfl) _ _
def zqV:Code:=codeA zxs
theorem zqT:C 25 zxs s=blockV 1 (C 25 zqV s):=zu (b:=zqV) (by kernel_rfl) _ _
def zcs:Code:=codeA zqV
def zxu:Code:=codeB zqV
theorem zxt:C 25 zqV s=thenV (C 25 zcs s) (C 25 zxu):=za (a:=zcs) (b:=zxu) (by kernel_rfl) _ _
theorem zH9:C 25 zcs s=O 25 zcs 0 s:=zb (id:=8) (ops:=regOps zcs) (by kernel_rfl) (by kernel_rfl) s
theorem zH7:O 25 zcs 0 s=stepV s (some 8) (some { v:=(.int .i64 (0)) }) (O 25 zcs 1):=oR
theorem zH8:O 25 zcs 1 s=some [(.normal,s)]:=zc (by kernel_rfl) s
def zjZ:Code:=codeA zxu
theorem zqW:C 25 zxu s=blockV 2 (C 25 zjZ s):=zu (b:=zjZ) (by kernel_rfl) _ _
def zqX:Code:=codeA zjZ
theorem zAQ:C 25 zjZ s=thenV (C 25 zqX s) (C 25 zjZ):=ZG (b:=zqX) (by kernel_rfl) _ _
def zqY:Code:=codeA zqX
def zqZ:Code:=codeB zqX
theorem zIa:C 25 zqX s=thenV (C 25 zqY s) (C 25 zqZ):=za (a:=zqY) (b:=zqZ) (by kernel_rfl) _ _
def zbl:Code:=codeA zqY
def zq1:Code:=codeB zqY
theorem zIb:C 25 zqY s=thenV (C 25 zbl s) (C 25 zq1):=za (a:=zbl) (b:=zq1) (by kernel_rfl) _ _
theorem zIg:C 25 zbl s=O 25 zbl 0 s:=zb (id:=9) (ops:=regOps zbl) (by kernel_rfl) (by kernel_rfl) s
theorem zId:O 25 zbl 0 s=stepV s (some 33) (some { v:=(R s 8) }) (O 25 zbl 1):=oR
theorem zIe:O 25 zbl 1 s=stepV s (some 34) (val (binV Tryz.prog .lss 3 false true (R s 33) (.int .i64 (2)))) (O 25 zbl 2):=oR
theorem zIf:O 25 zbl 2 s=some [(.normal,s)]:=zc (by kernel_rfl) s
def zAR:Code:=codeA zq1
def zAS:Code:=codeB zq1
theorem zIh:C 25 zq1 s=condV (R s 34) (C 25 zAR) (C 25 zAS) s:=zl (t:=34) (a:=zAR) (b:=zAS) (by kernel_rfl) _ _
theorem zIi:C 25 zAR s=some [(.normal,s)]:=zp (by kernel_rfl) _ _
theorem zIj:C 25 zAS s=some [(.exit 2,s)]:=Zx (by kernel_rfl) _ _
def zxv:Code:=codeA zqZ
def zau:Code:=codeB zqZ
theorem zIc:C 25 zqZ s=thenV (C 25 zxv s) (C 25 zau):=za (a:=zxv) (b:=zau) (by kernel_rfl) _ _
def zq2:Code:=codeA zxv
theorem zIk:C 25 zxv s=blockV 3 (C 25 zq2 s):=zu (b:=zq2) (by kernel_rfl) _ _
def zF:Code:=codeA zq2
def zq3:Code:=codeB zq2
theorem zIq:C 25 zq2 s=thenV (C 25 zF s) (C 25 zq3):=za (a:=zF) (b:=zq3) (by kernel_rfl) _ _
theorem zIL:C 25 zF s=O 25 zF 0 s:=zb (id:=11) (ops:=regOps zF) (by kernel_rfl) (by kernel_rfl) s
theorem zIr:O 25 zF 0 s=stepV s (some 37) (some { v:=(R s 1) }) (O 25 zF 1):=oR
theorem zIs:O 25 zF 1 s=stepV s (some 38) (some { v:=(R s 7) }) (O 25 zF 2):=oR
theorem zID:O 25 zF 2 s=stepV s (some 39) (some { v:=(R s 8) }) (O 25 zF 3):=oR
theorem zIE:O 25 zF 3 s=stepV s (some 40) (val (indexAddr Tryz.prog 22 (R s 37) (R s 38))) (O 25 zF 4):=oR
theorem zIF:O 25 zF 4 s=stepV s (some 41) (val (indexAddr Tryz.prog 42 (R s 40) (R s 39))) (O 25 zF 5):=oR
theorem zIG:O 25 zF 5 s=stepV s (some 42) (xLoad Tryz.prog 3 s.h.get (R s 41)) (O 25 zF 6):=oR
theorem zIH:O 25 zF 6 s=stepV s (some 43) (val (binV Tryz.prog .lss 3 false true (R s 42) (.int .i64 (0)))) (O 25 zF 7):=oR
theorem zII:O 25 zF 7 s=stepV s (some 44) (some { v:=(R s 43) }) (O 25 zF 8):=oR
theorem zIJ:O 25 zF 8 s=if wantB (R s 44) false=true then stepV s (some 45) (some { v:=(R s 1) }) (O 25 zF 9) else O 25 zF 9 (skipS s (some 45)):=oI
theorem zIK:O 25 zF 9 s=if wantB (R s 44) false=true then stepV s (some 46) (some { v:=(R s 7) }) (O 25 zF 10) else O 25 zF 10 (skipS s (some 46)):=oI
theorem zIt:O 25 zF 10 s=if wantB (R s 44) false=true then stepV s (some 47) (some { v:=(R s 8) }) (O 25 zF 11) else O 25 zF 11 (skipS s (some 47)):=oI
theorem zIu:O 25 zF 11 s=if wantB (R s 44) false=true then stepV s (some 48) (val (indexAddr Tryz.prog 22 (R s 45) (R s 46))) (O 25 zF 12) else O 25 zF 12 (skipS s (some 48)):=oI
theorem zIv:O 25 zF 12 s=if wantB (R s 44) false=true then stepV s (some 49) (val (indexAddr Tryz.prog 42 (R s 48) (R s 47))) (O 25 zF 13) else O 25 zF 13 (skipS s (some 49)):=oI
theorem zIw:O 25 zF 13 s=if wantB (R s 44) false=true then stepV s (some 50) (xLoad Tryz.prog 3 s.h.get (R s 49)) (O 25 zF 14) else O 25 zF 14 (skipS s (some 50)):=oI
theorem zIx:O 25 zF 14 s=if wantB (R s 44) false=true then stepV s (some 51) (some { v:=(R s 0) }) (O 25 zF 15) else O 25 zF 15 (skipS s (some 51)):=oI
theorem zIy:O 25 zF 15 s=if wantB (R s 44) false=true then stepV s (some 52) (some { v:=(R s 7) }) (O 25 zF 16) else O 25 zF 16 (skipS s (some 52)):=oI
theorem zIz:O 25 zF 16 s=if wantB (R s 44) false=true then stepV s (some 53) (val (binV Tryz.prog .add 3 false false (R s 51) (R s 52))) (O 25 zF 17) else O 25 zF 17 (skipS s (some 53)):=oI
theorem zIA:O 25 zF 17 s=if wantB (R s 44) false=true then stepV s (some 54) (val (binV Tryz.prog .geq 3 false false (R s 50) (R s 53))) (O 25 zF 18) else O 25 zF 18 (skipS s (some 54)):=oI
theorem zIB:O 25 zF 18 s=stepV s (some 55) (xPick (R s 44) (.bool true) (R s 54)) (O 25 zF 19):=oR
theorem zIC:O 25 zF 19 s=some [(.normal,s)]:=zc (by kernel_rfl) s
def zq4:Code:=codeA zq3
def zAT:Code:=codeB zq3
theorem zIM:C 25 zq3 s=condV (R s 55) (C 25 zq4) (C 25 zAT) s:=zl (t:=55) (a:=zq4) (b:=zAT) (by kernel_rfl) _ _
def zct:Code:=codeA zq4
def zAU:Code:=codeB zq4
theorem zIN:C 25 zq4 s=thenV (C 25 zct s) (C 25 zAU):=za (a:=zct) (b:=zAU) (by kernel_rfl) _ _
theorem zIV:C 25 zct s=O 25 zct 0 s:=zb (id:=12) (ops:=regOps zct) (by kernel_rfl) (by kernel_rfl) s
theorem zIT:O 25 zct 0 s=stepV s (some 6) (some { v:=(.int .i64 (2)) }) (O 25 zct 1):=oR
theorem zIU:O 25 zct 1 s=some [(.normal,s)]:=zc (by kernel_rfl) s
theorem zIW:C 25 zAU s=some [(.ret,s)]:=Zb (by kernel_rfl) _ _
theorem zIO:C 25 zAT s=some [(.normal,s)]:=zp (by kernel_rfl) _ _
theorem zIp:C 25 zau s=O 25 zau 0 s:=zb (id:=10) (ops:=regOps zau) (by kernel_rfl) (by kernel_rfl) s
theorem zIl:O 25 zau 0 s=stepV s (some 35) (some { v:=(R s 8) }) (O 25 zau 1):=oR
theorem zIm:O 25 zau 1 s=stepV s (some 36) (val (binV Tryz.prog .add 3 false true (R s 35) (.int .i64 (1)))) (O 25 zau 2):=oR
theorem zIn:O 25 zau 2 s=stepV s (some 8) (some { v:=(R s 36) }) (O 25 zau 3):=oR
theorem zIo:O 25 zau 3 s=some [(.normal,s)]:=zc (by kernel_rfl) s
theorem zqU:C 25 zat s=O 25 zat 0 s:=zb (id:=7) (ops:=regOps zat) (by kernel_rfl) (by kernel_rfl) s
theorem zH3:O 25 zat 0 s=stepV s (some 31) (some { v:=(R s 7) }) (O 25 zat 1):=oR
theorem zH4:O 25 zat 1 s=stepV s (some 32) (val (binV Tryz.prog .add 3 false true (R s 31) (.int .i64 (1)))) (O 25 zat 2):=oR
theorem zH5:O 25 zat 2 s=stepV s (some 7) (some { v:=(R s 32) }) (O 25 zat 3):=oR
theorem zH6:O 25 zat 3 s=some [(.normal,s)]:=zc (by kernel_rfl) s
def zq6:Code:=codeA zqK
def zq8:Code:=codeB zqK
theorem zqL:C 25 zqK s=thenV (C 25 zq6 s) (C 25 zq8):=za (a:=zq6) (b:=zq8) (by kernel_rfl) _ _
def zcu:Code:=codeA zq6
def zxw:Code:=codeB zq6
theorem zq7:C 25 zq6 s=thenV (C 25 zcu s) (C 25 zxw):=za (a:=zcu) (b:=zxw) (by kernel_rfl) _ _
theorem zIZ:C 25 zcu s=O 25 zcu 0 s:=zb (id:=13) (ops:=regOps zcu) (by kernel_rfl) (by kernel_rfl) s
theorem zIX:O 25 zcu 0 s=stepV s (some 9) (some { v:=(.int .i64 (0)) }) (O 25 zcu 1):=oR
theorem zIY:O 25 zcu 1 s=some [(.normal,s)]:=zc (by kernel_rfl) s
def zj0:Code:=codeA zxw
theorem zra:C 25 zxw s=blockV 4 (C 25 zj0 s):=zu (b:=zj0) (by kernel_rfl) _ _
def zrb:Code:=codeA zj0
theorem zI0:C 25 zj0 s=thenV (C 25 zrb s) (C 25 zj0):=ZG (b:=zrb) (by kernel_rfl) _ _
def zrc:Code:=codeA zrb
def zrd:Code:=codeB zrb
theorem zI1:C 25 zrb s=thenV (C 25 zrc s) (C 25 zrd):=za (a:=zrc) (b:=zrd) (by kernel_rfl) _ _
def Q3:Code:=codeA zrc
def zrf:Code:=codeB zrc
theorem zI2:C 25 zrc s=thenV (C 25 Q3 s) (C 25 zrf):=za (a:=Q3) (b:=zrf) (by kernel_rfl) _ _
theorem zI9:C 25 Q3 s=O 25 Q3 0 s:=zb (id:=14) (ops:=regOps Q3) (by kernel_rfl) (by kernel_rfl) s
theorem zI4:O 25 Q3 0 s=stepV s (some 56) (some { v:=(R s 9) }) (O 25 Q3 1):=oR
theorem zI5:O 25 Q3 1 s=stepV s (some 57) (some { v:=(R s 2) }) (O 25 Q3 2):=oR
theorem zI6:O 25 Q3 2 s=stepV s (some 58) (builtinV Tryz.prog false s.h.get s.h.n .len [22] [(R s 57)]) (O 25 Q3 3):=oR
theorem zI7:O 25 Q3 3 s=stepV s (some 59) (val (binV Tryz.prog .lss 3 false false (R s 56) (R s 58))) (O 25 Q3 4):=oR
theorem zI8:O 25 Q3 4 s=some [(.normal,s)]:=zc (by kernel_rfl) s
def zAV:Code:=codeA zrf
def zAW:Code:=codeB zrf
theorem zJa:C 25 zrf s=condV (R s 59) (C 25 zAV) (C 25 zAW) s:=zl (t:=59) (a:=zAV) (b:=zAW) (by kernel_rfl) _ _
theorem zJb:C 25 zAV s=some [(.normal,s)]:=zp (by kernel_rfl) _ _
theorem zJc:C 25 zAW s=some [(.exit 4,s)]:=Zx (by kernel_rfl) _ _
def zxy:Code:=codeA zrd
def zav:Code:=codeB zrd
theorem zxx:C 25 zrd s=thenV (C 25 zxy s) (C 25 zav):=za (a:=zxy) (b:=zav) (by kernel_rfl) _ _
def zri:Code:=codeA zxy
theorem zrg:C 25 zxy s=blockV 5 (C 25 zri s):=zu (b:=zri) (by kernel_rfl) _ _
def zcv:Code:=codeA zri
def zxA:Code:=codeB zri
theorem zxz:C 25 zri s=thenV (C 25 zcv s) (C 25 zxA):=za (a:=zcv) (b:=zxA) (by kernel_rfl) _ _
theorem zJj:C 25 zcv s=O 25 zcv 0 s:=zb (id:=16) (ops:=regOps zcv) (by kernel_rfl) (by kernel_rfl) s
theorem zJh:O 25 zcv 0 s=stepV s (some 10) (some { v:=(.int .i64 (0)) }) (O 25 zcv 1):=oR
theorem zJi:O 25 zcv 1 s=some [(.normal,s)]:=zc (by kernel_rfl) s
def zj1:Code:=codeA zxA
theorem zrj:C 25 zxA s=blockV 6 (C 25 zj1 s):=zu (b:=zj1) (by kernel_rfl) _ _
def zrk:Code:=codeA zj1
theorem zAX:C 25 zj1 s=thenV (C 25 zrk s) (C 25 zj1):=ZG (b:=zrk) (by kernel_rfl) _ _
def zrl:Code:=codeA zrk
def zrm:Code:=codeB zrk
theorem zJl:C 25 zrk s=thenV (C 25 zrl s) (C 25 zrm):=za (a:=zrl) (b:=zrm) (by kernel_rfl) _ _
def zbn:Code:=codeA zrl
def zrn:Code:=codeB zrl
theorem zJm:C 25 zrl s=thenV (C 25 zbn s) (C 25 zrn):=za (a:=zbn) (b:=zrn) (by kernel_rfl) _ _
theorem zJr:C 25 zbn s=O 25 zbn 0 s:=zb (id:=17) (ops:=regOps zbn) (by kernel_rfl) (by kernel_rfl) s
theorem zJo:O 25 zbn 0 s=stepV s (some 62) (some { v:=(R s 10) }) (O 25 zbn 1):=oR
theorem zJp:O 25 zbn 1 s=stepV s (some 63) (val (binV Tryz.prog .lss 3 false true (R s 62) (.int .i64 (2)))) (O 25 zbn 2):=oR
theorem zJq:O 25 zbn 2 s=some [(.normal,s)]:=zc (by kernel_rfl) s
def zAZ:Code:=codeA zrn
def zA0:Code:=codeB zrn
theorem zJs:C 25 zrn s=condV (R s 63) (C 25 zAZ) (C 25 zA0) s:=zl (t:=63) (a:=zAZ) (b:=zA0) (by kernel_rfl) _ _
theorem zJt:C 25 zAZ s=some [(.normal,s)]:=zp (by kernel_rfl) _ _
theorem zJu:C 25 zA0 s=some [(.exit 6,s)]:=Zx (by kernel_rfl) _ _
def zxB:Code:=codeA zrm
def zaw:Code:=codeB zrm
theorem zJn:C 25 zrm s=thenV (C 25 zxB s) (C 25 zaw):=za (a:=zxB) (b:=zaw) (by kernel_rfl) _ _
def zro:Code:=codeA zxB
theorem zJv:C 25 zxB s=blockV 7 (C 25 zro s):=zu (b:=zro) (by kernel_rfl) _ _
def zC:Code:=codeA zro
def zrp:Code:=codeB zro
theorem zJB:C 25 zro s=thenV (C 25 zC s) (C 25 zrp):=za (a:=zC) (b:=zrp) (by kernel_rfl) _ _
theorem zJY:C 25 zC s=O 25 zC 0 s:=zb (id:=19) (ops:=regOps zC) (by kernel_rfl) (by kernel_rfl) s
theorem zJD:O 25 zC 0 s=stepV s (some 66) (some { v:=(R s 2) }) (O 25 zC 1):=oR
theorem zJE:O 25 zC 1 s=stepV s (some 67) (some { v:=(R s 9) }) (O 25 zC 2):=oR
theorem zJP:O 25 zC 2 s=stepV s (some 68) (some { v:=(R s 10) }) (O 25 zC 3):=oR
theorem zJR:O 25 zC 3 s=stepV s (some 69) (val (indexAddr Tryz.prog 22 (R s 66) (R s 67))) (O 25 zC 4):=oR
theorem zJS:O 25 zC 4 s=stepV s (some 70) (val (indexAddr Tryz.prog 42 (R s 69) (R s 68))) (O 25 zC 5):=oR
theorem zJT:O 25 zC 5 s=stepV s (some 71) (xLoad Tryz.prog 3 s.h.get (R s 70)) (O 25 zC 6):=oR
theorem zJU:O 25 zC 6 s=stepV s (some 72) (val (binV Tryz.prog .lss 3 false true (R s 71) (.int .i64 (0)))) (O 25 zC 7):=oR
theorem zJV:O 25 zC 7 s=stepV s (some 73) (some { v:=(R s 72) }) (O 25 zC 8):=oR
theorem zJW:O 25 zC 8 s=if wantB (R s 73) false=true then stepV s (some 74) (some { v:=(R s 2) }) (O 25 zC 9) else O 25 zC 9 (skipS s (some 74)):=oI
theorem zJX:O 25 zC 9 s=if wantB (R s 73) false=true then stepV s (some 75) (some { v:=(R s 9) }) (O 25 zC 10) else O 25 zC 10 (skipS s (some 75)):=oI
theorem zJF:O 25 zC 10 s=if wantB (R s 73) false=true then stepV s (some 76) (some { v:=(R s 10) }) (O 25 zC 11) else O 25 zC 11 (skipS s (some 76)):=oI
theorem zJG:O 25 zC 11 s=if wantB (R s 73) false=true then stepV s (some 77) (val (indexAddr Tryz.prog 22 (R s 74) (R s 75))) (O 25 zC 12) else O 25 zC 12 (skipS s (some 77)):=oI
theorem zJH:O 25 zC 12 s=if wantB (R s 73) false=true then stepV s (some 78) (val (indexAddr Tryz.prog 42 (R s 77) (R s 76))) (O 25 zC 13) else O 25 zC 13 (skipS s (some 78)):=oI
theorem zJI:O 25 zC 13 s=if wantB (R s 73) false=true then stepV s (some 79) (xLoad Tryz.prog 3 s.h.get (R s 78)) (O 25 zC 14) else O 25 zC 14 (skipS s (some 79)):=oI
theorem zJJ:O 25 zC 14 s=if wantB (R s 73) false=true then stepV s (some 80) (some { v:=(R s 0) }) (O 25 zC 15) else O 25 zC 15 (skipS s (some 80)):=oI
theorem zJK:O 25 zC 15 s=if wantB (R s 73) false=true then stepV s (some 81) (some { v:=(R s 1) }) (O 25 zC 16) else O 25 zC 16 (skipS s (some 81)):=oI
theorem zJL:O 25 zC 16 s=if wantB (R s 73) false=true then stepV s (some 82) (builtinV Tryz.prog false s.h.get s.h.n .len [22] [(R s 81)]) (O 25 zC 17) else O 25 zC 17 (skipS s (some 82)):=oI
theorem zJM:O 25 zC 17 s=if wantB (R s 73) false=true then stepV s (some 83) (val (binV Tryz.prog .add 3 false false (R s 80) (R s 82))) (O 25 zC 18) else O 25 zC 18 (skipS s (some 83)):=oI
theorem zJN:O 25 zC 18 s=if wantB (R s 73) false=true then stepV s (some 84) (val (binV Tryz.prog .geq 3 false false (R s 79) (R s 83))) (O 25 zC 19) else O 25 zC 19 (skipS s (some 84)):=oI
theorem zJO:O 25 zC 19 s=stepV s (some 85) (xPick (R s 73) (.bool true) (R s 84)) (O 25 zC 20):=oR
theorem zJQ:O 25 zC 20 s=some [(.normal,s)]:=zc (by kernel_rfl) s
def zrq:Code:=codeA zrp
def zA1:Code:=codeB zrp
theorem zJZ:C 25 zrp s=condV (R s 85) (C 25 zrq) (C 25 zA1) s:=zl (t:=85) (a:=zrq) (b:=zA1) (by kernel_rfl) _ _
def zcx:Code:=codeA zrq
def zA2:Code:=codeB zrq
theorem zJ0:C 25 zrq s=thenV (C 25 zcx s) (C 25 zA2):=za (a:=zcx) (b:=zA2) (by kernel_rfl) _ _
theorem zJ4:C 25 zcx s=O 25 zcx 0 s:=zb (id:=20) (ops:=regOps zcx) (by kernel_rfl) (by kernel_rfl) s
theorem zJ2:O 25 zcx 0 s=stepV s (some 6) (some { v:=(.int .i64 (2)) }) (O 25 zcx 1):=oR
theorem zJ3:O 25 zcx 1 s=some [(.normal,s)]:=zc (by kernel_rfl) s
theorem zJ5:C 25 zA2 s=some [(.ret,s)]:=Zb (by kernel_rfl) _ _
theorem zJ1:C 25 zA1 s=some [(.normal,s)]:=zp (by kernel_rfl) _ _
theorem zJA:C 25 zaw s=O 25 zaw 0 s:=zb (id:=18) (ops:=regOps zaw) (by kernel_rfl) (by kernel_rfl) s
theorem zJw:O 25 zaw 0 s=stepV s (some 64) (some { v:=(R s 10) }) (O 25 zaw 1):=oR
theorem zJx:O 25 zaw 1 s=stepV s (some 65) (val (binV Tryz.prog .add 3 false true (R s 64) (.int .i64 (1)))) (O 25 zaw 2):=oR
theorem zJy:O 25 zaw 2 s=stepV s (some 10) (some { v:=(R s 65) }) (O 25 zaw 3):=oR
theorem zJz:O 25 zaw 3 s=some [(.normal,s)]:=zc (by kernel_rfl) s
theorem zrh:C 25 zav s=O 25 zav 0 s:=zb (id:=15) (ops:=regOps zav) (by kernel_rfl) (by kernel_rfl) s
theorem zJd:O 25 zav 0 s=stepV s (some 60) (some { v:=(R s 9) }) (O 25 zav 1):=oR
theorem zJe:O 25 zav 1 s=stepV s (some 61) (val (binV Tryz.prog .add 3 false true (R s 60) (.int .i64 (1)))) (O 25 zav 2):=oR
theorem zJf:O 25 zav 2 s=stepV s (some 9) (some { v:=(R s 61) }) (O 25 zav 3):=oR
theorem zJg:O 25 zav 3 s=some [(.normal,s)]:=zc (by kernel_rfl) s
def zcy:Code:=codeA zq8
def zA3:Code:=codeB zq8
theorem zq9:C 25 zq8 s=thenV (C 25 zcy s) (C 25 zA3):=za (a:=zcy) (b:=zA3) (by kernel_rfl) _ _
theorem zJ8:C 25 zcy s=O 25 zcy 0 s:=zb (id:=21) (ops:=regOps zcy) (by kernel_rfl) (by kernel_rfl) s
theorem zJ6:O 25 zcy 0 s=stepV s (some 6) (some { v:=(.int .i64 (0)) }) (O 25 zcy 1):=oR
theorem zJ7:O 25 zcy 1 s=some [(.normal,s)]:=zc (by kernel_rfl) s
theorem zJ9:C 25 zA3 s=some [(.ret,s)]:=Zb (by kernel_rfl) _ _
def k27:Code:=Tryz.f27.body.getD .skip
theorem zSv (args:List V) (ha:args.length≤16) (h:H):(EV Tryz.prog hs ks).call 27 args h=endsV Tryz.prog hs ks Tryz.f27 (C 27 k27 (S 16 (setF args 0 fun _=> undefV) [] h)):=Qu Tryz.func27 (by kernel_rfl) (by kernel_rfl) (by decide) rfl ha h
theorem zxT (f:Nat→V) (h:H):endsV Tryz.prog hs ks Tryz.f27 (some [(.ret,S 16 f [] h)])=resV (resultVs Tryz.prog (S 16 f [] h) [.tmp 2]) h:=Zc (by kernel_rfl) (Or.inl rfl) _ _
def zcK:Code:=codeA k27
def zuU:Code:=codeB k27
theorem zxS:C 27 k27 s=thenV (C 27 zcK s) (C 27 zuU):=za (a:=zcK) (b:=zuU) (by kernel_rfl) _ _
theorem zxP:C 27 zcK s=O 27 zcK 0 s:=zb (id:=0) (ops:=regOps zcK) (by kernel_rfl) (by kernel_rfl) s
theorem zBk:O 27 zcK 0 s=stepV s (some 2) (some { v:=(.nils) }) (O 27 zcK 1):=oR
theorem zBl:O 27 zcK 1 s=some [(.normal,s)]:=zc (by kernel_rfl) s
def zaH:Code:=codeA zuU
def zuY:Code:=codeB zuU
theorem zdJ:C 27 zuU s=thenV (C 27 zaH s) (C 27 zuY):=za (a:=zaH) (b:=zuY) (by kernel_rfl) _ _
theorem zdK:C 27 zaH s=O 27 zaH 0 s:=zb (id:=1) (ops:=regOps zaH) (by kernel_rfl) (by kernel_rfl) s
theorem zBP:O 27 zaH 0 s=stepV s (some 5) (some { v:=(R s 0) }) (O 27 zaH 1):=oR
theorem zBQ:O 27 zaH 1 s=stepV s (some 6) (mkS Tryz.prog 4 s.h.n (R s 5) (R s 5)) (O 27 zaH 2):=oR
theorem zBR:O 27 zaH 2 s=stepV s (some 3) (some { v:=(R s 6) }) (O 27 zaH 3):=oR
theorem zBS:O 27 zaH 3 s=some [(.normal,s)]:=zc (by kernel_rfl) s
def zuZ:Code:=codeA zuY
def zu0:Code:=codeB zuY
theorem zdL:C 27 zuY s=thenV (C 27 zuZ s) (C 27 zu0):=za (a:=zuZ) (b:=zu0) (by kernel_rfl) _ _
def zcL:Code:=codeA zuZ
def zxR:Code:=codeB zuZ
theorem zdM:C 27 zuZ s=thenV (C 27 zcL s) (C 27 zxR):=za (a:=zcL) (b:=zxR) (by kernel_rfl) _ _
theorem zBV:C 27 zcL s=O 27 zcL 0 s:=zb (id:=2) (ops:=regOps zcL) (by kernel_rfl) (by kernel_rfl) s
theorem zBT:O 27 zcL 0 s=stepV s (some 4) (some { v:=(.int .i64 (0)) }) (O 27 zcL 1):=oR
theorem zBU:O 27 zcL 1 s=some [(.normal,s)]:=zc (by kernel_rfl) s
def zj7:Code:=codeA zxR
theorem zdO:C 27 zxR s=blockV 0 (C 27 zj7 s):=zu (b:=zj7) (by kernel_rfl) _ _
def zu1:Code:=codeA zj7
theorem zKg:C 27 zj7 s=thenV (C 27 zu1 s) (C 27 zj7):=ZG (b:=zu1) (by kernel_rfl) _ _
def zuV:Code:=codeA zu1
def zuW:Code:=codeB zu1
theorem zBW:C 27 zu1 s=thenV (C 27 zuV s) (C 27 zuW):=za (a:=zuV) (b:=zuW) (by kernel_rfl) _ _
def zaF:Code:=codeA zuV
def zuX:Code:=codeB zuV
theorem zBm:C 27 zuV s=thenV (C 27 zaF s) (C 27 zuX):=za (a:=zaF) (b:=zuX) (by kernel_rfl) _ _
theorem zBs:C 27 zaF s=O 27 zaF 0 s:=zb (id:=3) (ops:=regOps zaF) (by kernel_rfl) (by kernel_rfl) s
theorem zBo:O 27 zaF 0 s=stepV s (some 7) (some { v:=(R s 4) }) (O 27 zaF 1):=oR
theorem zBp:O 27 zaF 1 s=stepV s (some 8) (some { v:=(R s 0) }) (O 27 zaF 2):=oR
theorem zBq:O 27 zaF 2 s=stepV s (some 9) (val (binV Tryz.prog .lss 3 false false (R s 7) (R s 8))) (O 27 zaF 3):=oR
theorem zBr:O 27 zaF 3 s=some [(.normal,s)]:=zc (by kernel_rfl) s
def zBu:Code:=codeA zuX
def zBw:Code:=codeB zuX
theorem zBt:C 27 zuX s=condV (R s 9) (C 27 zBu) (C 27 zBw) s:=zl (t:=9) (a:=zBu) (b:=zBw) (by kernel_rfl) _ _
theorem zBv:C 27 zBu s=some [(.normal,s)]:=zp (by kernel_rfl) _ _
theorem zBx:C 27 zBw s=some [(.exit 0,s)]:=Zx (by kernel_rfl) _ _
def zxQ:Code:=codeA zuW
def zaG:Code:=codeB zuW
theorem zBn:C 27 zuW s=thenV (C 27 zxQ s) (C 27 zaG):=za (a:=zxQ) (b:=zaG) (by kernel_rfl) _ _
def Q7:Code:=codeA zxQ
theorem zdI:C 27 zxQ s=blockV 1 (C 27 Q7 s):=zu (b:=Q7) (by kernel_rfl) _ _
theorem zBI:C 27 Q7 s=O 27 Q7 0 s:=zb (id:=5) (ops:=regOps Q7) (by kernel_rfl) (by kernel_rfl) s
theorem zBD:O 27 Q7 0 s=stepV s (some 12) (some { v:=(R s 3) }) (O 27 Q7 1):=oR
theorem zBE:O 27 Q7 1 s=stepV s (some 13) (some { v:=(R s 4) }) (O 27 Q7 2):=oR
theorem zBF:O 27 Q7 2 s=stepV s (some 14) (val (indexAddr Tryz.prog 39 (R s 12) (R s 13))) (O 27 Q7 3):=oR
theorem zBG:O 27 Q7 3 s=stepV s none (xStore Tryz.prog 4 s.h.get (R s 14) (.bool true)) (O 27 Q7 4):=oR
theorem zBH:O 27 Q7 4 s=some [(.normal,s)]:=zc (by kernel_rfl) s
theorem zBC:C 27 zaG s=O 27 zaG 0 s:=zb (id:=4) (ops:=regOps zaG) (by kernel_rfl) (by kernel_rfl) s
theorem zBy:O 27 zaG 0 s=stepV s (some 10) (some { v:=(R s 4) }) (O 27 zaG 1):=oR
theorem zBz:O 27 zaG 1 s=stepV s (some 11) (val (binV Tryz.prog .add 3 false true (R s 10) (.int .i64 (1)))) (O 27 zaG 2):=oR
theorem zBA:O 27 zaG 2 s=stepV s (some 4) (some { v:=(R s 11) }) (O 27 zaG 3):=oR
theorem zBB:O 27 zaG 3 s=some [(.normal,s)]:=zc (by kernel_rfl) s
def zbx:Code:=codeA zu0
def zBN:Code:=codeB zu0
theorem zdN:C 27 zu0 s=thenV (C 27 zbx s) (C 27 zBN):=za (a:=zbx) (b:=zBN) (by kernel_rfl) _ _
theorem zBM:C 27 zbx s=O 27 zbx 0 s:=zb (id:=6) (ops:=regOps zbx) (by kernel_rfl) (by kernel_rfl) s
theorem zBJ:O 27 zbx 0 s=stepV s (some 15) (some { v:=(R s 3) }) (O 27 zbx 1):=oR
theorem zBK:O 27 zbx 1 s=stepV s (some 2) (some { v:=(R s 15) }) (O 27 zbx 2):=oR
theorem zBL:O 27 zbx 2 s=some [(.normal,s)]:=zc (by kernel_rfl) s
theorem zBO:C 27 zBN s=some [(.ret,s)]:=Zb (by kernel_rfl) _ _
end Go.Proofs.YtdlaladdeelegaaGreat.Cg
end
noncomputable section
namespace Go.Proofs.YtdlaladdeelegaaGreat.Cg
open Go Go.Ae
variable (dn:List (Nat×Foot)) (s:St)
def k26:Code:=Tryz.f26.body.getD .skip
theorem zKf (args:List V) (ha:args.length≤109) (h:H):(EV Tryz.prog hs ks).call 26 args h=endsV Tryz.prog hs ks Tryz.f26 (C 26 k26 (S 109 (setF args 0 fun _=> undefV) [] h)):=Qu Tryz.func26 (by kernel_rfl) (by kernel_rfl) (by decide) rfl ha h
theorem zdH (f:Nat→V) (h:H):endsV Tryz.prog hs ks Tryz.f26 (some [(.ret,S 109 f [] h)])=resV (resultVs Tryz.prog (S 109 f [] h) [.tmp 8]) h:=Zc (by kernel_rfl) (Or.inl rfl) _ _
def zcz:Code:=codeA k26
def zrt:Code:=codeB k26
theorem zdG:C 26 k26 s=thenV (C 26 zcz s) (C 26 zrt):=za (a:=zcz) (b:=zrt) (by kernel_rfl) _ _
theorem zdy:C 26 zcz s=O 26 zcz 0 s:=zb (id:=0) (ops:=regOps zcz) (by kernel_rfl) (by kernel_rfl) s
theorem zrr:O 26 zcz 0 s=stepV s (some 8) (some { v:=(.nils) }) (O 26 zcz 1):=oR
theorem zrs:O 26 zcz 1 s=some [(.normal,s)]:=zc (by kernel_rfl) s
def zcA:Code:=codeA zrt
def zsk:Code:=codeB zrt
theorem zbp:C 26 zrt s=thenV (C 26 zcA s) (C 26 zsk):=za (a:=zcA) (b:=zsk) (by kernel_rfl) _ _
theorem zsj:C 26 zcA s=O 26 zcA 0 s:=zb (id:=1) (ops:=regOps zcA) (by kernel_rfl) (by kernel_rfl) s
theorem zsh:O 26 zcA 0 s=stepV s (some 9) (some { v:=(.nils) }) (O 26 zcA 1):=oR
theorem zsi:O 26 zcA 1 s=some [(.normal,s)]:=zc (by kernel_rfl) s
def zsO:Code:=codeA zsk
def zs4:Code:=codeB zsk
theorem zbt:C 26 zsk s=thenV (C 26 zsO s) (C 26 zs4):=za (a:=zsO) (b:=zs4) (by kernel_rfl) _ _
def zcI:Code:=codeA zsO
def zxN:Code:=codeB zsO
theorem zbu:C 26 zsO s=thenV (C 26 zcI s) (C 26 zxN):=za (a:=zcI) (b:=zxN) (by kernel_rfl) _ _
theorem ztE:C 26 zcI s=O 26 zcI 0 s:=zb (id:=2) (ops:=regOps zcI) (by kernel_rfl) (by kernel_rfl) s
theorem ztC:O 26 zcI 0 s=stepV s (some 10) (some { v:=(.int .i64 (0)) }) (O 26 zcI 1):=oR
theorem ztD:O 26 zcI 1 s=some [(.normal,s)]:=zc (by kernel_rfl) s
def zj6:Code:=codeA zxN
theorem zaE:C 26 zxN s=blockV 0 (C 26 zj6 s):=zu (b:=zj6) (by kernel_rfl) _ _
def zuS:Code:=codeA zj6
theorem zBj:C 26 zj6 s=thenV (C 26 zuS s) (C 26 zj6):=ZG (b:=zuS) (by kernel_rfl) _ _
def zru:Code:=codeA zuS
def zrw:Code:=codeB zuS
theorem zuT:C 26 zuS s=thenV (C 26 zru s) (C 26 zrw):=za (a:=zru) (b:=zrw) (by kernel_rfl) _ _
def QA:Code:=codeA zru
def zrG:Code:=codeB zru
theorem zrv:C 26 zru s=thenV (C 26 QA s) (C 26 zrG):=za (a:=QA) (b:=zrG) (by kernel_rfl) _ _
theorem zrF:C 26 QA s=O 26 QA 0 s:=zb (id:=3) (ops:=regOps QA) (by kernel_rfl) (by kernel_rfl) s
theorem zry:O 26 QA 0 s=stepV s (some 15) (some { v:=(R s 10) }) (O 26 QA 1):=oR
theorem zrz:O 26 QA 1 s=stepV s (some 16) (some { v:=(R s 0) }) (O 26 QA 2):=oR
theorem zrA:O 26 QA 2 s=stepV s (some 17) (some { v:=(R s 1) }) (O 26 QA 3):=oR
theorem zrB:O 26 QA 3 s=stepV s (some 18) (builtinV Tryz.prog false s.h.get s.h.n .len [22] [(R s 17)]) (O 26 QA 4):=oR
theorem zrC:O 26 QA 4 s=stepV s (some 19) (val (binV Tryz.prog .add 3 false false (R s 16) (R s 18))) (O 26 QA 5):=oR
theorem zrD:O 26 QA 5 s=stepV s (some 20) (val (binV Tryz.prog .lss 3 false false (R s 15) (R s 19))) (O 26 QA 6):=oR
theorem zrE:O 26 QA 6 s=some [(.normal,s)]:=zc (by kernel_rfl) s
def zA6:Code:=codeA zrG
def zA7:Code:=codeB zrG
theorem zrH:C 26 zrG s=condV (R s 20) (C 26 zA6) (C 26 zA7) s:=zl (t:=20) (a:=zA6) (b:=zA7) (by kernel_rfl) _ _
theorem zrI:C 26 zA6 s=some [(.normal,s)]:=zp (by kernel_rfl) _ _
theorem zrJ:C 26 zA7 s=some [(.exit 0,s)]:=Zx (by kernel_rfl) _ _
def zxE:Code:=codeA zrw
def zax:Code:=codeB zrw
theorem zrx:C 26 zrw s=thenV (C 26 zxE s) (C 26 zax):=za (a:=zxE) (b:=zax) (by kernel_rfl) _ _
def QN:Code:=codeA zxE
theorem zrK:C 26 zxE s=blockV 1 (C 26 QN s):=zu (b:=QN) (by kernel_rfl) _ _
theorem zrW:C 26 QN s=O 26 QN 0 s:=zb (id:=5) (ops:=regOps QN) (by kernel_rfl) (by kernel_rfl) s
theorem zrQ:O 26 QN 0 s=stepV s (some 23) (some { v:=(R s 9) }) (O 26 QN 1):=oR
theorem zrR:O 26 QN 1 s=stepV s (some 24) (some { v:=(R s 10) }) (O 26 QN 2):=oR
theorem zrS:O 26 QN 2 s=stepV s (some 25) (litS Tryz.prog false 27 1 [(0,(R s 24))] s.h.n) (O 26 QN 3):=oR
theorem zrT:O 26 QN 3 s=stepV s (some 26) (builtinV Tryz.prog true s.h.get s.h.n .append [27,27] [(R s 23),(R s 25)]) (O 26 QN 4):=oR
theorem zrU:O 26 QN 4 s=stepV s (some 9) (some { v:=(R s 26) }) (O 26 QN 5):=oR
theorem zrV:O 26 QN 5 s=some [(.normal,s)]:=zc (by kernel_rfl) s
theorem zrP:C 26 zax s=O 26 zax 0 s:=zb (id:=4) (ops:=regOps zax) (by kernel_rfl) (by kernel_rfl) s
theorem zrL:O 26 zax 0 s=stepV s (some 21) (some { v:=(R s 10) }) (O 26 zax 1):=oR
theorem zrM:O 26 zax 1 s=stepV s (some 22) (val (binV Tryz.prog .add 3 false true (R s 21) (.int .i64 (1)))) (O 26 zax 2):=oR
theorem zrN:O 26 zax 2 s=stepV s (some 10) (some { v:=(R s 22) }) (O 26 zax 3):=oR
theorem zrO:O 26 zax 3 s=some [(.normal,s)]:=zc (by kernel_rfl) s
def zrX:Code:=codeA zs4
def zrY:Code:=codeB zs4
theorem zbv:C 26 zs4 s=thenV (C 26 zrX s) (C 26 zrY):=za (a:=zrX) (b:=zrY) (by kernel_rfl) _ _
def zcB:Code:=codeA zrX
def zxF:Code:=codeB zrX
theorem zbo:C 26 zrX s=thenV (C 26 zcB s) (C 26 zxF):=za (a:=zcB) (b:=zxF) (by kernel_rfl) _ _
theorem zr1:C 26 zcB s=O 26 zcB 0 s:=zb (id:=6) (ops:=regOps zcB) (by kernel_rfl) (by kernel_rfl) s
theorem zrZ:O 26 zcB 0 s=stepV s (some 11) (some { v:=(.int .i64 (0)) }) (O 26 zcB 1):=oR
theorem zr0:O 26 zcB 1 s=some [(.normal,s)]:=zc (by kernel_rfl) s
def zj2:Code:=codeA zxF
theorem zay:C 26 zxF s=blockV 2 (C 26 zj2 s):=zu (b:=zj2) (by kernel_rfl) _ _
def zr2:Code:=codeA zj2
theorem zxG:C 26 zj2 s=thenV (C 26 zr2 s) (C 26 zj2):=ZG (b:=zr2) (by kernel_rfl) _ _
def zr4:Code:=codeA zr2
def zr6:Code:=codeB zr2
theorem zr3:C 26 zr2 s=thenV (C 26 zr4 s) (C 26 zr6):=za (a:=zr4) (b:=zr6) (by kernel_rfl) _ _
def Q4:Code:=codeA zr4
def zse:Code:=codeB zr4
theorem zr5:C 26 zr4 s=thenV (C 26 Q4 s) (C 26 zse):=za (a:=Q4) (b:=zse) (by kernel_rfl) _ _
theorem zsd:C 26 Q4 s=O 26 Q4 0 s:=zb (id:=7) (ops:=regOps Q4) (by kernel_rfl) (by kernel_rfl) s
theorem zr8:O 26 Q4 0 s=stepV s (some 27) (some { v:=(R s 11) }) (O 26 Q4 1):=oR
theorem zr9:O 26 Q4 1 s=stepV s (some 28) (some { v:=(R s 2) }) (O 26 Q4 2):=oR
theorem zsa:O 26 Q4 2 s=stepV s (some 29) (builtinV Tryz.prog false s.h.get s.h.n .len [22] [(R s 28)]) (O 26 Q4 3):=oR
theorem zsb:O 26 Q4 3 s=stepV s (some 30) (val (binV Tryz.prog .lss 3 false false (R s 27) (R s 29))) (O 26 Q4 4):=oR
theorem zsc:O 26 Q4 4 s=some [(.normal,s)]:=zc (by kernel_rfl) s
def zA8:Code:=codeA zse
def zA9:Code:=codeB zse
theorem zsf:C 26 zse s=condV (R s 30) (C 26 zA8) (C 26 zA9) s:=zl (t:=30) (a:=zA8) (b:=zA9) (by kernel_rfl) _ _
theorem zsg:C 26 zA8 s=some [(.normal,s)]:=zp (by kernel_rfl) _ _
theorem zsl:C 26 zA9 s=some [(.exit 2,s)]:=Zx (by kernel_rfl) _ _
def zsm:Code:=codeA zr6
def zaz:Code:=codeB zr6
theorem zr7:C 26 zr6 s=thenV (C 26 zsm s) (C 26 zaz):=za (a:=zsm) (b:=zaz) (by kernel_rfl) _ _
def zsr:Code:=codeA zsm
theorem zbG:C 26 zsm s=blockV 3 (C 26 zsr s):=zu (b:=zsr) (by kernel_rfl) _ _
def Q5:Code:=codeA zsr
def zsx:Code:=codeB zsr
theorem zcC:C 26 zsr s=thenV (C 26 Q5 s) (C 26 zsx):=za (a:=Q5) (b:=zsx) (by kernel_rfl) _ _
theorem zcD:C 26 Q5 s=O 26 Q5 0 s:=zb (id:=9) (ops:=regOps Q5) (by kernel_rfl) (by kernel_rfl) s
theorem zss:O 26 Q5 0 s=stepV s (some 33) (some { v:=(R s 3) }) (O 26 Q5 1):=oR
theorem zst:O 26 Q5 1 s=stepV s (some 34) (some { v:=(R s 11) }) (O 26 Q5 2):=oR
theorem zsu:O 26 Q5 2 s=stepV s (some 35) (val (indexAddr Tryz.prog 39 (R s 33) (R s 34))) (O 26 Q5 3):=oR
theorem zsv:O 26 Q5 3 s=stepV s (some 36) (xLoad Tryz.prog 4 s.h.get (R s 35)) (O 26 Q5 4):=oR
theorem zsw:O 26 Q5 4 s=some [(.normal,s)]:=zc (by kernel_rfl) s
def JK:Code:=codeA zsx
def zBa:Code:=codeB zsx
theorem zbI:C 26 zsx s=condV (R s 36) (C 26 JK) (C 26 zBa) s:=zl (t:=36) (a:=JK) (b:=zBa) (by kernel_rfl) _ _
def Zh:List Nat:=[0,0,0,6,14,30,0,0,192,448,960,2047]
theorem zbJ:C 26 JK s=D 26 JK Zh 0 [] s:=JI (id:=10) (ops:=regOps JK) (by kernel_rfl) (by kernel_rfl) (by kernel_rfl) (by kernel_rfl) s
theorem zsy:D 26 JK Zh 0 dn s=stepD s (some 37) 0 Zh dn (some { v:=(R s 9) }) (D 26 JK Zh 1):=dR
theorem zsz:D 26 JK Zh 1 dn s=stepD s (some 38) 1 Zh dn (some { v:=(R s 2) }) (D 26 JK Zh 2):=dR
theorem zsD:D 26 JK Zh 2 dn s=stepD s (some 39) 2 Zh dn (some { v:=(R s 11) }) (D 26 JK Zh 3):=dR
theorem zsE:D 26 JK Zh 3 dn s=stepD s (some 40) 3 Zh dn (val (indexAddr Tryz.prog 22 (R s 38) (R s 39))) (D 26 JK Zh 4):=dR
theorem zsF:D 26 JK Zh 4 dn s=stepD s (some 41) 4 Zh dn (val (indexAddr Tryz.prog 42 (R s 40) (.int .i64 (0)))) (D 26 JK Zh 5):=dR
theorem zsG:D 26 JK Zh 5 dn s=stepD s (some 42) 5 Zh dn (xLoad Tryz.prog 3 s.h.get (R s 41)) (D 26 JK Zh 6):=dR
theorem zsH:D 26 JK Zh 6 dn s=stepD s (some 43) 6 Zh dn (some { v:=(R s 2) }) (D 26 JK Zh 7):=dR
theorem zsI:D 26 JK Zh 7 dn s=stepD s (some 44) 7 Zh dn (some { v:=(R s 11) }) (D 26 JK Zh 8):=dR
theorem zsJ:D 26 JK Zh 8 dn s=stepD s (some 45) 8 Zh dn (val (indexAddr Tryz.prog 22 (R s 43) (R s 44))) (D 26 JK Zh 9):=dR
theorem zsK:D 26 JK Zh 9 dn s=stepD s (some 46) 9 Zh dn (val (indexAddr Tryz.prog 42 (R s 45) (.int .i64 (1)))) (D 26 JK Zh 10):=dR
theorem zsA:D 26 JK Zh 10 dn s=stepD s (some 47) 10 Zh dn (xLoad Tryz.prog 3 s.h.get (R s 46)) (D 26 JK Zh 11):=dR
theorem zsB:D 26 JK Zh 11 dn s=stepD s (some 48) 11 Zh dn (callD hs ks (EV Tryz.prog hs ks) s.h.get s.h.n (some (.func 50 [(R s 37),(R s 42),(R s 47)]))) (D 26 JK Zh 12):=dC
theorem zsC:D 26 JK Zh 12 dn s=some [(.normal,s)]:=JJ (by kernel_rfl) dn s
theorem zsL:C 26 zBa s=some [(.normal,s)]:=zp (by kernel_rfl) _ _
theorem zbH:C 26 zaz s=O 26 zaz 0 s:=zb (id:=8) (ops:=regOps zaz) (by kernel_rfl) (by kernel_rfl) s
theorem zsn:O 26 zaz 0 s=stepV s (some 31) (some { v:=(R s 11) }) (O 26 zaz 1):=oR
theorem zso:O 26 zaz 1 s=stepV s (some 32) (val (binV Tryz.prog .add 3 false true (R s 31) (.int .i64 (1)))) (O 26 zaz 2):=oR
theorem zsp:O 26 zaz 2 s=stepV s (some 11) (some { v:=(R s 32) }) (O 26 zaz 3):=oR
theorem zsq:O 26 zaz 3 s=some [(.normal,s)]:=zc (by kernel_rfl) s
def zsM:Code:=codeA zrY
def zsN:Code:=codeB zrY
theorem zbq:C 26 zrY s=thenV (C 26 zsM s) (C 26 zsN):=za (a:=zsM) (b:=zsN) (by kernel_rfl) _ _
def zcE:Code:=codeA zsM
def zxH:Code:=codeB zsM
theorem zbr:C 26 zsM s=thenV (C 26 zcE s) (C 26 zxH):=za (a:=zcE) (b:=zxH) (by kernel_rfl) _ _
theorem zsR:C 26 zcE s=O 26 zcE 0 s:=zb (id:=11) (ops:=regOps zcE) (by kernel_rfl) (by kernel_rfl) s
theorem zsP:O 26 zcE 0 s=stepV s (some 12) (some { v:=(.bool true) }) (O 26 zcE 1):=oR
theorem zsQ:O 26 zcE 1 s=some [(.normal,s)]:=zc (by kernel_rfl) s
def zj3:Code:=codeA zxH
theorem zaA:C 26 zxH s=blockV 4 (C 26 zj3 s):=zu (b:=zj3) (by kernel_rfl) _ _
def zsS:Code:=codeA zj3
theorem zxI:C 26 zj3 s=thenV (C 26 zsS s) (C 26 zj3):=ZG (b:=zsS) (by kernel_rfl) _ _
def zsU:Code:=codeA zsS
def zsW:Code:=codeB zsS
theorem zsT:C 26 zsS s=thenV (C 26 zsU s) (C 26 zsW):=za (a:=zsU) (b:=zsW) (by kernel_rfl) _ _
def zcF:Code:=codeA zsU
def zs0:Code:=codeB zsU
theorem zsV:C 26 zsU s=thenV (C 26 zcF s) (C 26 zs0):=za (a:=zcF) (b:=zs0) (by kernel_rfl) _ _
theorem zsZ:C 26 zcF s=O 26 zcF 0 s:=zb (id:=12) (ops:=regOps zcF) (by kernel_rfl) (by kernel_rfl) s
theorem zsX:O 26 zcF 0 s=stepV s (some 49) (some { v:=(R s 12) }) (O 26 zcF 1):=oR
theorem zsY:O 26 zcF 1 s=some [(.normal,s)]:=zc (by kernel_rfl) s
def zBb:Code:=codeA zs0
def zBc:Code:=codeB zs0
theorem zs1:C 26 zs0 s=condV (R s 49) (C 26 zBb) (C 26 zBc) s:=zl (t:=49) (a:=zBb) (b:=zBc) (by kernel_rfl) _ _
theorem zs2:C 26 zBb s=some [(.normal,s)]:=zp (by kernel_rfl) _ _
theorem zs3:C 26 zBc s=some [(.exit 4,s)]:=Zx (by kernel_rfl) _ _
def zs5:Code:=codeA zsW
theorem zbK:C 26 zsW s=blockV 5 (C 26 zs5 s):=zu (b:=zs5) (by kernel_rfl) _ _
def zcG:Code:=codeA zs5
def zs9:Code:=codeB zs5
theorem zdz:C 26 zs5 s=thenV (C 26 zcG s) (C 26 zs9):=za (a:=zcG) (b:=zs9) (by kernel_rfl) _ _
theorem zs8:C 26 zcG s=O 26 zcG 0 s:=zb (id:=13) (ops:=regOps zcG) (by kernel_rfl) (by kernel_rfl) s
theorem zs6:O 26 zcG 0 s=stepV s (some 12) (some { v:=(.bool false) }) (O 26 zcG 1):=oR
theorem zs7:O 26 zcG 1 s=some [(.normal,s)]:=zc (by kernel_rfl) s
def zcH:Code:=codeA zs9
def zxJ:Code:=codeB zs9
theorem zdA:C 26 zs9 s=thenV (C 26 zcH s) (C 26 zxJ):=za (a:=zcH) (b:=zxJ) (by kernel_rfl) _ _
theorem ztc:C 26 zcH s=O 26 zcH 0 s:=zb (id:=14) (ops:=regOps zcH) (by kernel_rfl) (by kernel_rfl) s
theorem zta:O 26 zcH 0 s=stepV s (some 13) (some { v:=(.int .i64 (0)) }) (O 26 zcH 1):=oR
theorem ztb:O 26 zcH 1 s=some [(.normal,s)]:=zc (by kernel_rfl) s
def zj4:Code:=codeA zxJ
theorem zbL:C 26 zxJ s=blockV 6 (C 26 zj4 s):=zu (b:=zj4) (by kernel_rfl) _ _
def ztd:Code:=codeA zj4
theorem zxK:C 26 zj4 s=thenV (C 26 ztd s) (C 26 zj4):=ZG (b:=ztd) (by kernel_rfl) _ _
def ztf:Code:=codeA ztd
def zth:Code:=codeB ztd
theorem zte:C 26 ztd s=thenV (C 26 ztf s) (C 26 zth):=za (a:=ztf) (b:=zth) (by kernel_rfl) _ _
def Q6:Code:=codeA ztf
def zto:Code:=codeB ztf
theorem ztg:C 26 ztf s=thenV (C 26 Q6 s) (C 26 zto):=za (a:=Q6) (b:=zto) (by kernel_rfl) _ _
theorem ztn:C 26 Q6 s=O 26 Q6 0 s:=zb (id:=15) (ops:=regOps Q6) (by kernel_rfl) (by kernel_rfl) s
theorem zti:O 26 Q6 0 s=stepV s (some 50) (some { v:=(R s 13) }) (O 26 Q6 1):=oR
theorem ztj:O 26 Q6 1 s=stepV s (some 51) (some { v:=(R s 1) }) (O 26 Q6 2):=oR
theorem ztk:O 26 Q6 2 s=stepV s (some 52) (builtinV Tryz.prog false s.h.get s.h.n .len [22] [(R s 51)]) (O 26 Q6 3):=oR
theorem ztl:O 26 Q6 3 s=stepV s (some 53) (val (binV Tryz.prog .lss 3 false false (R s 50) (R s 52))) (O 26 Q6 4):=oR
theorem ztm:O 26 Q6 4 s=some [(.normal,s)]:=zc (by kernel_rfl) s
def zBd:Code:=codeA zto
def zBe:Code:=codeB zto
theorem ztp:C 26 zto s=condV (R s 53) (C 26 zBd) (C 26 zBe) s:=zl (t:=53) (a:=zBd) (b:=zBe) (by kernel_rfl) _ _
theorem ztq:C 26 zBd s=some [(.normal,s)]:=zp (by kernel_rfl) _ _
theorem ztr:C 26 zBe s=some [(.exit 6,s)]:=Zx (by kernel_rfl) _ _
def zxL:Code:=codeA zth
def zaB:Code:=codeB zth
theorem zdB:C 26 zth s=thenV (C 26 zxL s) (C 26 zaB):=za (a:=zxL) (b:=zaB) (by kernel_rfl) _ _
def ztw:Code:=codeA zxL
theorem zbM:C 26 zxL s=blockV 7 (C 26 ztw s):=zu (b:=ztw) (by kernel_rfl) _ _
def zcJ:Code:=codeA ztw
def zxM:Code:=codeB ztw
theorem zdC:C 26 ztw s=thenV (C 26 zcJ s) (C 26 zxM):=za (a:=zcJ) (b:=zxM) (by kernel_rfl) _ _
theorem ztz:C 26 zcJ s=O 26 zcJ 0 s:=zb (id:=17) (ops:=regOps zcJ) (by kernel_rfl) (by kernel_rfl) s
theorem ztx:O 26 zcJ 0 s=stepV s (some 14) (some { v:=(.int .i64 (0)) }) (O 26 zcJ 1):=oR
theorem zty:O 26 zcJ 1 s=some [(.normal,s)]:=zc (by kernel_rfl) s
def zj5:Code:=codeA zxM
theorem zbO:C 26 zxM s=blockV 8 (C 26 zj5 s):=zu (b:=zj5) (by kernel_rfl) _ _
def ztA:Code:=codeA zj5
theorem zKe:C 26 zj5 s=thenV (C 26 ztA s) (C 26 zj5):=ZG (b:=ztA) (by kernel_rfl) _ _
def ztF:Code:=codeA ztA
def ztH:Code:=codeB ztA
theorem ztB:C 26 ztA s=thenV (C 26 ztF s) (C 26 ztH):=za (a:=ztF) (b:=ztH) (by kernel_rfl) _ _
def zaC:Code:=codeA ztF
def ztN:Code:=codeB ztF
theorem ztG:C 26 ztF s=thenV (C 26 zaC s) (C 26 ztN):=za (a:=zaC) (b:=ztN) (by kernel_rfl) _ _
theorem ztM:C 26 zaC s=O 26 zaC 0 s:=zb (id:=18) (ops:=regOps zaC) (by kernel_rfl) (by kernel_rfl) s
theorem ztI:O 26 zaC 0 s=stepV s (some 56) (some { v:=(R s 14) }) (O 26 zaC 1):=oR
theorem ztJ:O 26 zaC 1 s=stepV s (some 57) (some { v:=(R s 13) }) (O 26 zaC 2):=oR
theorem ztK:O 26 zaC 2 s=stepV s (some 58) (val (binV Tryz.prog .lss 3 false false (R s 56) (R s 57))) (O 26 zaC 3):=oR
theorem ztL:O 26 zaC 3 s=some [(.normal,s)]:=zc (by kernel_rfl) s
def zBf:Code:=codeA ztN
def zBg:Code:=codeB ztN
theorem ztO:C 26 ztN s=condV (R s 58) (C 26 zBf) (C 26 zBg) s:=zl (t:=58) (a:=zBf) (b:=zBg) (by kernel_rfl) _ _
theorem ztP:C 26 zBf s=some [(.normal,s)]:=zp (by kernel_rfl) _ _
theorem ztQ:C 26 zBg s=some [(.exit 8,s)]:=Zx (by kernel_rfl) _ _
def ztR:Code:=codeA ztH
def zaD:Code:=codeB ztH
theorem zdD:C 26 ztH s=thenV (C 26 ztR s) (C 26 zaD):=za (a:=ztR) (b:=zaD) (by kernel_rfl) _ _
def ztW:Code:=codeA ztR
theorem zbP:C 26 ztR s=blockV 9 (C 26 ztW s):=zu (b:=ztW) (by kernel_rfl) _ _
def zh:Code:=codeA ztW
def zuy:Code:=codeB ztW
theorem zdE:C 26 ztW s=thenV (C 26 zh s) (C 26 zuy):=za (a:=zh) (b:=zuy) (by kernel_rfl) _ _
def zd:List Nat:=[0,0,0,6,14,30,63,127,0,0,0,1536,3584,7680,16128,32512,65535,131071,262143,262143,262143,1835007,3932159,8126463,16777215,33554431,262143,262143,262143,402915327,939786239,2013528063,4228120575,8523087871,17179869183,34359738367]
theorem zbR:C 26 zh s=D 26 zh zd 0 [] s:=JI (id:=20) (ops:=regOps zh) (by kernel_rfl) (by kernel_rfl) (by kernel_rfl) (by kernel_rfl) s
theorem ztX:D 26 zh zd 0 dn s=stepD s (some 61) 0 zd dn (some { v:=(R s 9) }) (D 26 zh zd 1):=dR
theorem ztY:D 26 zh zd 1 dn s=stepD s (some 62) 1 zd dn (some { v:=(R s 1) }) (D 26 zh zd 2):=dR
theorem zt9:D 26 zh zd 2 dn s=stepD s (some 63) 2 zd dn (some { v:=(R s 13) }) (D 26 zh zd 3):=dR
theorem zuk:D 26 zh zd 3 dn s=stepD s (some 64) 3 zd dn (val (indexAddr Tryz.prog 22 (R s 62) (R s 63))) (D 26 zh zd 4):=dR
theorem zus:D 26 zh zd 4 dn s=stepD s (some 65) 4 zd dn (val (indexAddr Tryz.prog 42 (R s 64) (.int .i64 (0)))) (D 26 zh zd 5):=dR
theorem zut:D 26 zh zd 5 dn s=stepD s (some 66) 5 zd dn (xLoad Tryz.prog 3 s.h.get (R s 65)) (D 26 zh zd 6):=dR
theorem zuu:D 26 zh zd 6 dn s=stepD s (some 67) 6 zd dn (val (indexAddr Tryz.prog 27 (R s 61) (R s 66))) (D 26 zh zd 7):=dR
theorem zuv:D 26 zh zd 7 dn s=stepD s (some 68) 7 zd dn (xLoad Tryz.prog 3 s.h.get (R s 67)) (D 26 zh zd 8):=dR
theorem zuw:D 26 zh zd 8 dn s=stepD s (some 69) 8 zd dn (some { v:=(R s 9) }) (D 26 zh zd 9):=dR
theorem zux:D 26 zh zd 9 dn s=stepD s (some 70) 9 zd dn (some { v:=(R s 1) }) (D 26 zh zd 10):=dR
theorem ztZ:D 26 zh zd 10 dn s=stepD s (some 71) 10 zd dn (some { v:=(R s 14) }) (D 26 zh zd 11):=dR
theorem zt0:D 26 zh zd 11 dn s=stepD s (some 72) 11 zd dn (val (indexAddr Tryz.prog 22 (R s 70) (R s 71))) (D 26 zh zd 12):=dR
theorem zt1:D 26 zh zd 12 dn s=stepD s (some 73) 12 zd dn (val (indexAddr Tryz.prog 42 (R s 72) (.int .i64 (0)))) (D 26 zh zd 13):=dR
theorem zt2:D 26 zh zd 13 dn s=stepD s (some 74) 13 zd dn (xLoad Tryz.prog 3 s.h.get (R s 73)) (D 26 zh zd 14):=dR
theorem zt3:D 26 zh zd 14 dn s=stepD s (some 75) 14 zd dn (val (indexAddr Tryz.prog 27 (R s 69) (R s 74))) (D 26 zh zd 15):=dR
theorem zt4:D 26 zh zd 15 dn s=stepD s (some 76) 15 zd dn (xLoad Tryz.prog 3 s.h.get (R s 75)) (D 26 zh zd 16):=dR
theorem zt5:D 26 zh zd 16 dn s=stepD s (some 77) 16 zd dn (val (binV Tryz.prog .eql 3 false false (R s 68) (R s 76))) (D 26 zh zd 17):=dR
theorem zt6:D 26 zh zd 17 dn s=stepD s (some 78) 17 zd dn (some { v:=(R s 77) }) (D 26 zh zd 18):=dR
theorem zt7:D 26 zh zd 18 dn s=if wantB (R s 78) true=true then stepD s (some 79) 18 zd dn (some { v:=(R s 9) }) (D 26 zh zd 19) else D 26 zh zd 19 dn (skipS s (some 79)):=dI
theorem zt8:D 26 zh zd 19 dn s=if wantB (R s 78) true=true then stepD s (some 80) 19 zd dn (some { v:=(R s 1) }) (D 26 zh zd 20) else D 26 zh zd 20 dn (skipS s (some 80)):=dI
theorem zua:D 26 zh zd 20 dn s=if wantB (R s 78) true=true then stepD s (some 81) 20 zd dn (some { v:=(R s 13) }) (D 26 zh zd 21) else D 26 zh zd 21 dn (skipS s (some 81)):=dI
theorem zub:D 26 zh zd 21 dn s=if wantB (R s 78) true=true then stepD s (some 82) 21 zd dn (val (indexAddr Tryz.prog 22 (R s 80) (R s 81))) (D 26 zh zd 22) else D 26 zh zd 22 dn (skipS s (some 82)):=dI
theorem zuc:D 26 zh zd 22 dn s=if wantB (R s 78) true=true then stepD s (some 83) 22 zd dn (val (indexAddr Tryz.prog 42 (R s 82) (.int .i64 (1)))) (D 26 zh zd 23) else D 26 zh zd 23 dn (skipS s (some 83)):=dI
theorem zud:D 26 zh zd 23 dn s=if wantB (R s 78) true=true then stepD s (some 84) 23 zd dn (xLoad Tryz.prog 3 s.h.get (R s 83)) (D 26 zh zd 24) else D 26 zh zd 24 dn (skipS s (some 84)):=dI
theorem zue:D 26 zh zd 24 dn s=if wantB (R s 78) true=true then stepD s (some 85) 24 zd dn (val (indexAddr Tryz.prog 27 (R s 79) (R s 84))) (D 26 zh zd 25) else D 26 zh zd 25 dn (skipS s (some 85)):=dI
theorem zuf:D 26 zh zd 25 dn s=if wantB (R s 78) true=true then stepD s (some 86) 25 zd dn (xLoad Tryz.prog 3 s.h.get (R s 85)) (D 26 zh zd 26) else D 26 zh zd 26 dn (skipS s (some 86)):=dI
theorem zug:D 26 zh zd 26 dn s=if wantB (R s 78) true=true then stepD s (some 87) 26 zd dn (some { v:=(R s 9) }) (D 26 zh zd 27) else D 26 zh zd 27 dn (skipS s (some 87)):=dI
theorem zuh:D 26 zh zd 27 dn s=if wantB (R s 78) true=true then stepD s (some 88) 27 zd dn (some { v:=(R s 1) }) (D 26 zh zd 28) else D 26 zh zd 28 dn (skipS s (some 88)):=dI
theorem zui:D 26 zh zd 28 dn s=if wantB (R s 78) true=true then stepD s (some 89) 28 zd dn (some { v:=(R s 14) }) (D 26 zh zd 29) else D 26 zh zd 29 dn (skipS s (some 89)):=dI
theorem zuj:D 26 zh zd 29 dn s=if wantB (R s 78) true=true then stepD s (some 90) 29 zd dn (val (indexAddr Tryz.prog 22 (R s 88) (R s 89))) (D 26 zh zd 30) else D 26 zh zd 30 dn (skipS s (some 90)):=dI
theorem zul:D 26 zh zd 30 dn s=if wantB (R s 78) true=true then stepD s (some 91) 30 zd dn (val (indexAddr Tryz.prog 42 (R s 90) (.int .i64 (1)))) (D 26 zh zd 31) else D 26 zh zd 31 dn (skipS s (some 91)):=dI
theorem zum:D 26 zh zd 31 dn s=if wantB (R s 78) true=true then stepD s (some 92) 31 zd dn (xLoad Tryz.prog 3 s.h.get (R s 91)) (D 26 zh zd 32) else D 26 zh zd 32 dn (skipS s (some 92)):=dI
theorem zun:D 26 zh zd 32 dn s=if wantB (R s 78) true=true then stepD s (some 93) 32 zd dn (val (indexAddr Tryz.prog 27 (R s 87) (R s 92))) (D 26 zh zd 33) else D 26 zh zd 33 dn (skipS s (some 93)):=dI
theorem zuo:D 26 zh zd 33 dn s=if wantB (R s 78) true=true then stepD s (some 94) 33 zd dn (xLoad Tryz.prog 3 s.h.get (R s 93)) (D 26 zh zd 34) else D 26 zh zd 34 dn (skipS s (some 94)):=dI
theorem zup:D 26 zh zd 34 dn s=if wantB (R s 78) true=true then stepD s (some 95) 34 zd dn (val (binV Tryz.prog .eql 3 false false (R s 86) (R s 94))) (D 26 zh zd 35) else D 26 zh zd 35 dn (skipS s (some 95)):=dI
theorem zuq:D 26 zh zd 35 dn s=stepD s (some 96) 35 zd dn (xPick (R s 78) (R s 95) (.bool false)) (D 26 zh zd 36):=dR
theorem zur:D 26 zh zd 36 dn s=some [(.normal,s)]:=JJ (by kernel_rfl) dn s
def Z6:Code:=codeA zuy
def zBh:Code:=codeB zuy
theorem zbS:C 26 zuy s=condV (R s 96) (C 26 Z6) (C 26 zBh) s:=zl (t:=96) (a:=Z6) (b:=zBh) (by kernel_rfl) _ _
theorem zdF:C 26 Z6 s=O 26 Z6 0 s:=zb (id:=21) (ops:=regOps Z6) (by kernel_rfl) (by kernel_rfl) s
theorem zuz:O 26 Z6 0 s=stepV s (some 97) (some { v:=(R s 9) }) (O 26 Z6 1):=oR
theorem zuA:O 26 Z6 1 s=stepV s (some 98) (some { v:=(R s 0) }) (O 26 Z6 2):=oR
theorem zuE:O 26 Z6 2 s=stepV s (some 99) (some { v:=(R s 13) }) (O 26 Z6 3):=oR
theorem zuF:O 26 Z6 3 s=stepV s (some 100) (val (binV Tryz.prog .add 3 false false (R s 98) (R s 99))) (O 26 Z6 4):=oR
theorem zuG:O 26 Z6 4 s=stepV s (some 101) (some { v:=(R s 0) }) (O 26 Z6 5):=oR
theorem zuH:O 26 Z6 5 s=stepV s (some 102) (some { v:=(R s 14) }) (O 26 Z6 6):=oR
theorem zuI:O 26 Z6 6 s=stepV s (some 103) (val (binV Tryz.prog .add 3 false false (R s 101) (R s 102))) (O 26 Z6 7):=oR
theorem zuJ:O 26 Z6 7 s=thenC (some 104) s (callS Tryz.prog hs ks 50 [(R s 97),(R s 100),(R s 103)] s.h) (O 26 Z6 8):=cR
theorem zuK:O 26 Z6 8 s=stepV s (some 105) (some { v:=(R s 104) }) (O 26 Z6 9):=oR
theorem zuL:O 26 Z6 9 s=if wantB (R s 105) false=true then stepV s (some 106) (some { v:=(R s 12) }) (O 26 Z6 10) else O 26 Z6 10 (skipS s (some 106)):=oI
theorem zuB:O 26 Z6 10 s=stepV s (some 107) (xPick (R s 105) (.bool true) (R s 106)) (O 26 Z6 11):=oR
theorem zuC:O 26 Z6 11 s=stepV s (some 12) (some { v:=(R s 107) }) (O 26 Z6 12):=oR
theorem zuD:O 26 Z6 12 s=some [(.normal,s)]:=zc (by kernel_rfl) s
theorem zuM:C 26 zBh s=some [(.normal,s)]:=zp (by kernel_rfl) _ _
theorem zbQ:C 26 zaD s=O 26 zaD 0 s:=zb (id:=19) (ops:=regOps zaD) (by kernel_rfl) (by kernel_rfl) s
theorem ztS:O 26 zaD 0 s=stepV s (some 59) (some { v:=(R s 14) }) (O 26 zaD 1):=oR
theorem ztT:O 26 zaD 1 s=stepV s (some 60) (val (binV Tryz.prog .add 3 false true (R s 59) (.int .i64 (1)))) (O 26 zaD 2):=oR
theorem ztU:O 26 zaD 2 s=stepV s (some 14) (some { v:=(R s 60) }) (O 26 zaD 3):=oR
theorem ztV:O 26 zaD 3 s=some [(.normal,s)]:=zc (by kernel_rfl) s
theorem zbN:C 26 zaB s=O 26 zaB 0 s:=zb (id:=16) (ops:=regOps zaB) (by kernel_rfl) (by kernel_rfl) s
theorem zts:O 26 zaB 0 s=stepV s (some 54) (some { v:=(R s 13) }) (O 26 zaB 1):=oR
theorem ztt:O 26 zaB 1 s=stepV s (some 55) (val (binV Tryz.prog .add 3 false true (R s 54) (.int .i64 (1)))) (O 26 zaB 2):=oR
theorem ztu:O 26 zaB 2 s=stepV s (some 13) (some { v:=(R s 55) }) (O 26 zaB 3):=oR
theorem ztv:O 26 zaB 3 s=some [(.normal,s)]:=zc (by kernel_rfl) s
def zbw:Code:=codeA zsN
def zBi:Code:=codeB zsN
theorem zbs:C 26 zsN s=thenV (C 26 zbw s) (C 26 zBi):=za (a:=zbw) (b:=zBi) (by kernel_rfl) _ _
theorem zuQ:C 26 zbw s=O 26 zbw 0 s:=zb (id:=22) (ops:=regOps zbw) (by kernel_rfl) (by kernel_rfl) s
theorem zuN:O 26 zbw 0 s=stepV s (some 108) (some { v:=(R s 9) }) (O 26 zbw 1):=oR
theorem zuO:O 26 zbw 1 s=stepV s (some 8) (some { v:=(R s 108) }) (O 26 zbw 2):=oR
theorem zuP:O 26 zbw 2 s=some [(.normal,s)]:=zc (by kernel_rfl) s
theorem zuR:C 26 zBi s=some [(.ret,s)]:=Zb (by kernel_rfl) _ _
def k50:Code:=Tryz.f50.body.getD .skip
theorem zUY (args:List V) (ha:args.length≤45) (h:H):(EV Tryz.prog hs ks).call 50 args h=endsV Tryz.prog hs ks Tryz.f50 (C 50 k50 (S 45 (setF args 0 fun _=> undefV) [] h)):=Qu Tryz.func50 (by kernel_rfl) (by kernel_rfl) (by decide) rfl ha h
theorem zLZ (f:Nat→V) (h:H):endsV Tryz.prog hs ks Tryz.f50 (some [(.ret,S 45 f [] h)])=resV (resultVs Tryz.prog (S 45 f [] h) [.tmp 6]) h:=Zc (by kernel_rfl) (Or.inl rfl) _ _
def zc2:Code:=codeA k50
def zvN:Code:=codeB k50
theorem zLY:C 50 k50 s=thenV (C 50 zc2 s) (C 50 zvN):=za (a:=zc2) (b:=zvN) (by kernel_rfl) _ _
theorem zLI:C 50 zc2 s=O 50 zc2 0 s:=zb (id:=0) (ops:=regOps zc2) (by kernel_rfl) (by kernel_rfl) s
theorem zTO:O 50 zc2 0 s=stepV s (some 6) (some { v:=(.bool false) }) (O 50 zc2 1):=oR
theorem zTP:O 50 zc2 1 s=some [(.normal,s)]:=zc (by kernel_rfl) s
def J1:Code:=codeA zvN
def zvW:Code:=codeB zvN
theorem zLP:C 50 zvN s=thenV (C 50 J1 s) (C 50 zvW):=za (a:=J1) (b:=zvW) (by kernel_rfl) _ _
def ZD:List Nat:=[0,0,3,7,0,0,48,112,15,511]
theorem zLQ:C 50 J1 s=D 50 J1 ZD 0 [] s:=JI (id:=1) (ops:=regOps J1) (by kernel_rfl) (by kernel_rfl) (by kernel_rfl) (by kernel_rfl) s
theorem zUw:D 50 J1 ZD 0 dn s=stepD s (some 12) 0 ZD dn (some { v:=(R s 0) }) (D 50 J1 ZD 1):=dR
theorem zUx:D 50 J1 ZD 1 dn s=stepD s (some 13) 1 ZD dn (some { v:=(R s 1) }) (D 50 J1 ZD 2):=dR
theorem zUz:D 50 J1 ZD 2 dn s=stepD s (some 14) 2 ZD dn (val (indexAddr Tryz.prog 27 (R s 12) (R s 13))) (D 50 J1 ZD 3):=dR
theorem zUA:D 50 J1 ZD 3 dn s=stepD s (some 15) 3 ZD dn (xLoad Tryz.prog 3 s.h.get (R s 14)) (D 50 J1 ZD 4):=dR
theorem zUB:D 50 J1 ZD 4 dn s=stepD s (some 16) 4 ZD dn (some { v:=(R s 0) }) (D 50 J1 ZD 5):=dR
theorem zUC:D 50 J1 ZD 5 dn s=stepD s (some 17) 5 ZD dn (some { v:=(R s 2) }) (D 50 J1 ZD 6):=dR
theorem zUD:D 50 J1 ZD 6 dn s=stepD s (some 18) 6 ZD dn (val (indexAddr Tryz.prog 27 (R s 16) (R s 17))) (D 50 J1 ZD 7):=dR
theorem zUE:D 50 J1 ZD 7 dn s=stepD s (some 19) 7 ZD dn (xLoad Tryz.prog 3 s.h.get (R s 18)) (D 50 J1 ZD 8):=dR
theorem zUF:D 50 J1 ZD 8 dn s=stepD s (some 7) 8 ZD dn (some { v:=(R s 15) }) (D 50 J1 ZD 9):=dR
theorem zUG:D 50 J1 ZD 9 dn s=stepD s (some 8) 9 ZD dn (some { v:=(R s 19) }) (D 50 J1 ZD 10):=dR
theorem zUy:D 50 J1 ZD 10 dn s=some [(.normal,s)]:=JJ (by kernel_rfl) dn s
def zvY:Code:=codeA zvW
def zvZ:Code:=codeB zvW
theorem zLV:C 50 zvW s=thenV (C 50 zvY s) (C 50 zvZ):=za (a:=zvY) (b:=zvZ) (by kernel_rfl) _ _
def zaR:Code:=codeA zvY
def zv0:Code:=codeB zvY
theorem zLW:C 50 zvY s=thenV (C 50 zaR s) (C 50 zv0):=za (a:=zaR) (b:=zv0) (by kernel_rfl) _ _
theorem zUU:C 50 zaR s=O 50 zaR 0 s:=zb (id:=2) (ops:=regOps zaR) (by kernel_rfl) (by kernel_rfl) s
theorem zUQ:O 50 zaR 0 s=stepV s (some 20) (some { v:=(R s 7) }) (O 50 zaR 1):=oR
theorem zUR:O 50 zaR 1 s=stepV s (some 21) (some { v:=(R s 8) }) (O 50 zaR 2):=oR
theorem zUS:O 50 zaR 2 s=stepV s (some 22) (val (binV Tryz.prog .eql 3 false false (R s 20) (R s 21))) (O 50 zaR 3):=oR
theorem zUT:O 50 zaR 3 s=some [(.normal,s)]:=zc (by kernel_rfl) s
def zv1:Code:=codeA zv0
def zCg:Code:=codeB zv0
theorem zUV:C 50 zv0 s=condV (R s 22) (C 50 zv1) (C 50 zCg) s:=zl (t:=22) (a:=zv1) (b:=zCg) (by kernel_rfl) _ _
def zc3:Code:=codeA zv1
def zCa:Code:=codeB zv1
theorem zUW:C 50 zv1 s=thenV (C 50 zc3 s) (C 50 zCa):=za (a:=zc3) (b:=zCa) (by kernel_rfl) _ _
theorem zTS:C 50 zc3 s=O 50 zc3 0 s:=zb (id:=3) (ops:=regOps zc3) (by kernel_rfl) (by kernel_rfl) s
theorem zTQ:O 50 zc3 0 s=stepV s (some 6) (some { v:=(.bool false) }) (O 50 zc3 1):=oR
theorem zTR:O 50 zc3 1 s=some [(.normal,s)]:=zc (by kernel_rfl) s
theorem zTT:C 50 zCa s=some [(.ret,s)]:=Zb (by kernel_rfl) _ _
theorem zUX:C 50 zCg s=some [(.normal,s)]:=zp (by kernel_rfl) _ _
def Qj:Code:=codeA zvZ
def zvO:Code:=codeB zvZ
theorem zLX:C 50 zvZ s=thenV (C 50 Qj s) (C 50 zvO):=za (a:=Qj) (b:=zvO) (by kernel_rfl) _ _
theorem zLJ:C 50 Qj s=O 50 Qj 0 s:=zb (id:=4) (ops:=regOps Qj) (by kernel_rfl) (by kernel_rfl) s
theorem zTU:O 50 Qj 0 s=stepV s (some 23) (some { v:=(R s 7) }) (O 50 Qj 1):=oR
theorem zTV:O 50 Qj 1 s=stepV s (some 24) (some { v:=(R s 8) }) (O 50 Qj 2):=oR
theorem zTW:O 50 Qj 2 s=stepV s (some 25) (builtinV Tryz.prog false s.h.get s.h.n .min [3,3] [(R s 23),(R s 24)]) (O 50 Qj 3):=oR
theorem zTX:O 50 Qj 3 s=stepV s (some 26) (some { v:=(R s 7) }) (O 50 Qj 4):=oR
theorem zTY:O 50 Qj 4 s=stepV s (some 27) (some { v:=(R s 8) }) (O 50 Qj 5):=oR
theorem zTZ:O 50 Qj 5 s=stepV s (some 28) (builtinV Tryz.prog false s.h.get s.h.n .max [3,3] [(R s 26),(R s 27)]) (O 50 Qj 6):=oR
theorem zT0:O 50 Qj 6 s=stepV s (some 9) (some { v:=(R s 25) }) (O 50 Qj 7):=oR
theorem zT1:O 50 Qj 7 s=stepV s (some 10) (some { v:=(R s 28) }) (O 50 Qj 8):=oR
theorem zT2:O 50 Qj 8 s=some [(.normal,s)]:=zc (by kernel_rfl) s
def zvP:Code:=codeA zvO
def zvQ:Code:=codeB zvO
theorem zLK:C 50 zvO s=thenV (C 50 zvP s) (C 50 zvQ):=za (a:=zvP) (b:=zvQ) (by kernel_rfl) _ _
def zc4:Code:=codeA zvP
def zx3:Code:=codeB zvP
theorem zLL:C 50 zvP s=thenV (C 50 zc4 s) (C 50 zx3):=za (a:=zc4) (b:=zx3) (by kernel_rfl) _ _
theorem zLN:C 50 zc4 s=O 50 zc4 0 s:=zb (id:=5) (ops:=regOps zc4) (by kernel_rfl) (by kernel_rfl) s
theorem zT3:O 50 zc4 0 s=stepV s (some 11) (some { v:=(.int .i64 (0)) }) (O 50 zc4 1):=oR
theorem zT4:O 50 zc4 1 s=some [(.normal,s)]:=zc (by kernel_rfl) s
def zkh:Code:=codeA zx3
theorem zCb:C 50 zx3 s=blockV 0 (C 50 zkh s):=zu (b:=zkh) (by kernel_rfl) _ _
def zvR:Code:=codeA zkh
theorem zLO:C 50 zkh s=thenV (C 50 zvR s) (C 50 zkh):=ZG (b:=zvR) (by kernel_rfl) _ _
def zvS:Code:=codeA zvR
def zvT:Code:=codeB zvR
theorem zT5:C 50 zvR s=thenV (C 50 zvS s) (C 50 zvT):=za (a:=zvS) (b:=zvT) (by kernel_rfl) _ _
def Q9:Code:=codeA zvS
def zvU:Code:=codeB zvS
theorem zT6:C 50 zvS s=thenV (C 50 Q9 s) (C 50 zvU):=za (a:=Q9) (b:=zvU) (by kernel_rfl) _ _
theorem zUd:C 50 Q9 s=O 50 Q9 0 s:=zb (id:=6) (ops:=regOps Q9) (by kernel_rfl) (by kernel_rfl) s
theorem zT8:O 50 Q9 0 s=stepV s (some 29) (some { v:=(R s 11) }) (O 50 Q9 1):=oR
theorem zT9:O 50 Q9 1 s=stepV s (some 30) (some { v:=(R s 0) }) (O 50 Q9 2):=oR
theorem zUa:O 50 Q9 2 s=stepV s (some 31) (builtinV Tryz.prog false s.h.get s.h.n .len [27] [(R s 30)]) (O 50 Q9 3):=oR
theorem zUb:O 50 Q9 3 s=stepV s (some 32) (val (binV Tryz.prog .lss 3 false false (R s 29) (R s 31))) (O 50 Q9 4):=oR
theorem zUc:O 50 Q9 4 s=some [(.normal,s)]:=zc (by kernel_rfl) s
def zCc:Code:=codeA zvU
def zCd:Code:=codeB zvU
theorem zUe:C 50 zvU s=condV (R s 32) (C 50 zCc) (C 50 zCd) s:=zl (t:=32) (a:=zCc) (b:=zCd) (by kernel_rfl) _ _
theorem zUf:C 50 zCc s=some [(.normal,s)]:=zp (by kernel_rfl) _ _
theorem zUg:C 50 zCd s=some [(.exit 0,s)]:=Zx (by kernel_rfl) _ _
def zx4:Code:=codeA zvT
def zaQ:Code:=codeB zvT
theorem zT7:C 50 zvT s=thenV (C 50 zx4 s) (C 50 zaQ):=za (a:=zx4) (b:=zaQ) (by kernel_rfl) _ _
def zvV:Code:=codeA zx4
theorem zUh:C 50 zx4 s=blockV 1 (C 50 zvV s):=zu (b:=zvV) (by kernel_rfl) _ _
def QB:Code:=codeA zvV
def zvX:Code:=codeB zvV
theorem zUn:C 50 zvV s=thenV (C 50 QB s) (C 50 zvX):=za (a:=QB) (b:=zvX) (by kernel_rfl) _ _
theorem zUv:C 50 QB s=O 50 QB 0 s:=zb (id:=8) (ops:=regOps QB) (by kernel_rfl) (by kernel_rfl) s
theorem zUo:O 50 QB 0 s=stepV s (some 35) (some { v:=(R s 0) }) (O 50 QB 1):=oR
theorem zUp:O 50 QB 1 s=stepV s (some 36) (some { v:=(R s 11) }) (O 50 QB 2):=oR
theorem zUq:O 50 QB 2 s=stepV s (some 37) (val (indexAddr Tryz.prog 27 (R s 35) (R s 36))) (O 50 QB 3):=oR
theorem zUr:O 50 QB 3 s=stepV s (some 38) (xLoad Tryz.prog 3 s.h.get (R s 37)) (O 50 QB 4):=oR
theorem zUs:O 50 QB 4 s=stepV s (some 39) (some { v:=(R s 10) }) (O 50 QB 5):=oR
theorem zUt:O 50 QB 5 s=stepV s (some 40) (val (binV Tryz.prog .eql 3 false false (R s 38) (R s 39))) (O 50 QB 6):=oR
theorem zUu:O 50 QB 6 s=some [(.normal,s)]:=zc (by kernel_rfl) s
def QQ:Code:=codeA zvX
def zCe:Code:=codeB zvX
theorem zUH:C 50 zvX s=condV (R s 40) (C 50 QQ) (C 50 zCe) s:=zl (t:=40) (a:=QQ) (b:=zCe) (by kernel_rfl) _ _
theorem zUO:C 50 QQ s=O 50 QQ 0 s:=zb (id:=9) (ops:=regOps QQ) (by kernel_rfl) (by kernel_rfl) s
theorem zUI:O 50 QQ 0 s=stepV s (some 41) (some { v:=(R s 0) }) (O 50 QQ 1):=oR
theorem zUJ:O 50 QQ 1 s=stepV s (some 42) (some { v:=(R s 11) }) (O 50 QQ 2):=oR
theorem zUK:O 50 QQ 2 s=stepV s (some 43) (some { v:=(R s 9) }) (O 50 QQ 3):=oR
theorem zUL:O 50 QQ 3 s=stepV s (some 44) (val (indexAddr Tryz.prog 27 (R s 41) (R s 42))) (O 50 QQ 4):=oR
theorem zUM:O 50 QQ 4 s=stepV s none (xStore Tryz.prog 3 s.h.get (R s 44) (R s 43)) (O 50 QQ 5):=oR
theorem zUN:O 50 QQ 5 s=some [(.normal,s)]:=zc (by kernel_rfl) s
theorem zUP:C 50 zCe s=some [(.normal,s)]:=zp (by kernel_rfl) _ _
theorem zUm:C 50 zaQ s=O 50 zaQ 0 s:=zb (id:=7) (ops:=regOps zaQ) (by kernel_rfl) (by kernel_rfl) s
theorem zUi:O 50 zaQ 0 s=stepV s (some 33) (some { v:=(R s 11) }) (O 50 zaQ 1):=oR
theorem zUj:O 50 zaQ 1 s=stepV s (some 34) (val (binV Tryz.prog .add 3 false true (R s 33) (.int .i64 (1)))) (O 50 zaQ 2):=oR
theorem zUk:O 50 zaQ 2 s=stepV s (some 11) (some { v:=(R s 34) }) (O 50 zaQ 3):=oR
theorem zUl:O 50 zaQ 3 s=some [(.normal,s)]:=zc (by kernel_rfl) s
def zc5:Code:=codeA zvQ
def zCf:Code:=codeB zvQ
theorem zLM:C 50 zvQ s=thenV (C 50 zc5 s) (C 50 zCf):=za (a:=zc5) (b:=zCf) (by kernel_rfl) _ _
theorem zLT:C 50 zc5 s=O 50 zc5 0 s:=zb (id:=10) (ops:=regOps zc5) (by kernel_rfl) (by kernel_rfl) s
theorem zLR:O 50 zc5 0 s=stepV s (some 6) (some { v:=(.bool true) }) (O 50 zc5 1):=oR
theorem zLS:O 50 zc5 1 s=some [(.normal,s)]:=zc (by kernel_rfl) s
theorem zLU:C 50 zCf s=some [(.ret,s)]:=Zb (by kernel_rfl) _ _
end Go.Proofs.YtdlaladdeelegaaGreat.Cg
end
