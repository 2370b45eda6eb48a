/- Equations of the code. -/
import Derived.Test.YtdlaladdeelegaaGreatE1
import Derived.KernelRfl
set_option linter.all false
noncomputable section
namespace Go.Proofs.YtdlaladdeelegaaGreat.Cg
open Go Go.Ae
variable (dn:List (Nat×Foot)) (s:St)
def k22:Code:=Tryz.f22.body.getD .skip
theorem zRn (args:List V) (ha:args.length≤166) (h:H):(EV Tryz.prog hs ks).call 22 args h=endsV Tryz.prog hs ks Tryz.f22 (C 22 k22 (S 166 (setF args 0 fun _=> undefV) [] h)):=Qu Tryz.func22 (by kernel_rfl) (by kernel_rfl) (by decide) rfl ha h
theorem zjU (f:Nat→V) (h:H):endsV Tryz.prog hs ks Tryz.f22 (some [(.ret,S 166 f [] h)])=resV (resultVs Tryz.prog (S 166 f [] h) [.tmp 8]) h:=Zc (by kernel_rfl) (Or.inl rfl) _ _
def zce:Code:=codeA k22
def zlX:Code:=codeB k22
theorem zjT:C 22 k22 s=thenV (C 22 zce s) (C 22 zlX):=za (a:=zce) (b:=zlX) (by kernel_rfl) _ _
theorem zlW:C 22 zce s=O 22 zce 0 s:=zb (id:=0) (ops:=regOps zce) (by kernel_rfl) (by kernel_rfl) s
theorem zlU:O 22 zce 0 s=stepV s (some 8) (some { v:=(.nilp) }) (O 22 zce 1):=oR
theorem zlV:O 22 zce 1 s=some [(.normal,s)]:=zc (by kernel_rfl) s
def QM:Code:=codeA zlX
def znn:Code:=codeB zlX
theorem zjK:C 22 zlX s=thenV (C 22 QM s) (C 22 znn):=za (a:=QM) (b:=znn) (by kernel_rfl) _ _
theorem znm:C 22 QM s=O 22 QM 0 s:=zb (id:=1) (ops:=regOps QM) (by kernel_rfl) (by kernel_rfl) s
theorem zng:O 22 QM 0 s=stepV s (some 17) (some { v:=(R s 0) }) (O 22 QM 1):=oR
theorem znh:O 22 QM 1 s=stepV s (some 18) (some { v:=(R s 1) }) (O 22 QM 2):=oR
theorem zni:O 22 QM 2 s=stepV s (some 19) (builtinV Tryz.prog false s.h.get s.h.n .len [22] [(R s 18)]) (O 22 QM 3):=oR
theorem znj:O 22 QM 3 s=stepV s (some 20) (val (binV Tryz.prog .add 3 false false (R s 17) (R s 19))) (O 22 QM 4):=oR
theorem znk:O 22 QM 4 s=stepV s (some 9) (some { v:=(R s 20) }) (O 22 QM 5):=oR
theorem znl:O 22 QM 5 s=some [(.normal,s)]:=zc (by kernel_rfl) s
def J0:Code:=codeA znn
def zoL:Code:=codeB znn
theorem zjM:C 22 znn s=thenV (C 22 J0 s) (C 22 zoL):=za (a:=J0) (b:=zoL) (by kernel_rfl) _ _
def ZC:List Nat:=[0,0,0,4,0,16,0,127,255,511]
theorem zoK:C 22 J0 s=D 22 J0 ZC 0 [] s:=JI (id:=2) (ops:=regOps J0) (by kernel_rfl) (by kernel_rfl) (by kernel_rfl) (by kernel_rfl) s
theorem zoz:D 22 J0 ZC 0 dn s=stepD s (some 21) 0 ZC dn (some { v:=(R s 0) }) (D 22 J0 ZC 1):=dR
theorem zoA:D 22 J0 ZC 1 dn s=stepD s (some 22) 1 ZC dn (some { v:=(R s 1) }) (D 22 J0 ZC 2):=dR
theorem zoC:D 22 J0 ZC 2 dn s=stepD s (some 23) 2 ZC dn (some { v:=(R s 9) }) (D 22 J0 ZC 3):=dR
theorem zoD:D 22 J0 ZC 3 dn s=stepD s (some 24) 3 ZC dn (mkS Tryz.prog 27 s.h.n (R s 23) (R s 23)) (D 22 J0 ZC 4):=dR
theorem zoE:D 22 J0 ZC 4 dn s=stepD s (some 25) 4 ZC dn (some { v:=(R s 9) }) (D 22 J0 ZC 5):=dR
theorem zoF:D 22 J0 ZC 5 dn s=stepD s (some 26) 5 ZC dn (mkS Tryz.prog 27 s.h.n (R s 25) (R s 25)) (D 22 J0 ZC 6):=dR
theorem zoG:D 22 J0 ZC 6 dn s=stepD s (some 27) 6 ZC dn (some { v:=.map s.h.n,nw:=[.map [] 0] }) (D 22 J0 ZC 7):=dR
theorem zoH:D 22 J0 ZC 7 dn s=stepD s (some 28) 7 ZC dn (val (build Tryz.prog 82 [(0,(R s 21)),(1,(R s 22)),(3,(R s 24)),(4,(R s 26)),(5,(R s 27))])) (D 22 J0 ZC 8):=dR
theorem zoI:D 22 J0 ZC 8 dn s=stepD s (some 29) 8 ZC dn (some { v:=.ptr s.h.n 0,nw:=[.row 0 (V.cells (R s 28))] }) (D 22 J0 ZC 9):=dR
theorem zoJ:D 22 J0 ZC 9 dn s=stepD s (some 10) 9 ZC dn (some { v:=(R s 29) }) (D 22 J0 ZC 10):=dR
theorem zoB:D 22 J0 ZC 10 dn s=some [(.normal,s)]:=JJ (by kernel_rfl) dn s
def zpC:Code:=codeA zoL
def zp2:Code:=codeB zoL
theorem zdt:C 22 zoL s=thenV (C 22 zpC s) (C 22 zp2):=za (a:=zpC) (b:=zp2) (by kernel_rfl) _ _
def zbj:Code:=codeA zpC
def zxj:Code:=codeB zpC
theorem zdv:C 22 zpC s=thenV (C 22 zbj s) (C 22 zxj):=za (a:=zbj) (b:=zxj) (by kernel_rfl) _ _
theorem zqo:C 22 zbj s=O 22 zbj 0 s:=zb (id:=3) (ops:=regOps zbj) (by kernel_rfl) (by kernel_rfl) s
theorem zql:O 22 zbj 0 s=stepV s (some 30) (some { v:=(R s 9) }) (O 22 zbj 1):=oR
theorem zqm:O 22 zbj 1 s=stepV s (some 31) (some { v:=(.int .i64 (0)) }) (O 22 zbj 2):=oR
theorem zqn:O 22 zbj 2 s=some [(.normal,s)]:=zc (by kernel_rfl) s
def zjJ:Code:=codeA zxj
theorem zdx:C 22 zxj s=blockV 0 (C 22 zjJ s):=zu (b:=zjJ) (by kernel_rfl) _ _
def zlY:Code:=codeA zjJ
theorem zHq:C 22 zjJ s=thenV (C 22 zlY s) (C 22 zjJ):=ZG (b:=zlY) (by kernel_rfl) _ _
def zcf:Code:=codeA zlY
def zl3:Code:=codeB zlY
theorem zlZ:C 22 zlY s=thenV (C 22 zcf s) (C 22 zl3):=za (a:=zcf) (b:=zl3) (by kernel_rfl) _ _
theorem zl2:C 22 zcf s=O 22 zcf 0 s:=zb (id:=4) (ops:=regOps zcf) (by kernel_rfl) (by kernel_rfl) s
theorem zl0:O 22 zcf 0 s=stepV s (some 32) (val (binV Tryz.prog .lss 3 false false (R s 31) (R s 30))) (O 22 zcf 1):=oR
theorem zl1:O 22 zcf 1 s=some [(.normal,s)]:=zc (by kernel_rfl) s
def zl5:Code:=codeA zl3
def zl7:Code:=codeB zl3
theorem zl4:C 22 zl3 s=thenV (C 22 zl5 s) (C 22 zl7):=za (a:=zl5) (b:=zl7) (by kernel_rfl) _ _
def zAv:Code:=codeA zl5
def zAw:Code:=codeB zl5
theorem zl6:C 22 zl5 s=condV (R s 32) (C 22 zAv) (C 22 zAw) s:=zl (t:=32) (a:=zAv) (b:=zAw) (by kernel_rfl) _ _
theorem zl9:C 22 zAv s=some [(.normal,s)]:=zp (by kernel_rfl) _ _
theorem zma:C 22 zAw s=some [(.exit 0,s)]:=Zx (by kernel_rfl) _ _
def zxe:Code:=codeA zl7
def zbe:Code:=codeB zl7
theorem zl8:C 22 zl7 s=thenV (C 22 zxe s) (C 22 zbe):=za (a:=zxe) (b:=zbe) (by kernel_rfl) _ _
def zmg:Code:=codeA zxe
theorem zmb:C 22 zxe s=blockV 1 (C 22 zmg s):=zu (b:=zmg) (by kernel_rfl) _ _
def zbf:Code:=codeA zmg
def zmm:Code:=codeB zmg
theorem zmh:C 22 zmg s=thenV (C 22 zbf s) (C 22 zmm):=za (a:=zbf) (b:=zmm) (by kernel_rfl) _ _
theorem zml:C 22 zbf s=O 22 zbf 0 s:=zb (id:=5) (ops:=regOps zbf) (by kernel_rfl) (by kernel_rfl) s
theorem zmi:O 22 zbf 0 s=stepV s (some 33) (some { v:=(R s 31) }) (O 22 zbf 1):=oR
theorem zmj:O 22 zbf 1 s=stepV s (some 11) (some { v:=(R s 33) }) (O 22 zbf 2):=oR
theorem zmk:O 22 zbf 2 s=some [(.normal,s)]:=zc (by kernel_rfl) s
def JT:Code:=codeA zmm
def zmB:Code:=codeB zmm
theorem zmn:C 22 zmm s=thenV (C 22 JT s) (C 22 zmB):=za (a:=JT) (b:=zmB) (by kernel_rfl) _ _
theorem zmA:C 22 JT s=O 22 JT 0 s:=zb (id:=6) (ops:=regOps JT) (by kernel_rfl) (by kernel_rfl) s
theorem zmo:O 22 JT 0 s=stepV s (some 34) (some { v:=(R s 10) }) (O 22 JT 1):=oR
theorem zmp:O 22 JT 1 s=stepV s (some 35) (some { v:=(R s 10) }) (O 22 JT 2):=oR
theorem zms:O 22 JT 2 s=stepV s (some 36) (xNilCheck Tryz.prog (R s 35)) (O 22 JT 3):=oR
theorem zmt:O 22 JT 3 s=stepV s (some 37) (val (addrAdd (R s 36) 2)) (O 22 JT 4):=oR
theorem zmu:O 22 JT 4 s=stepV s (some 38) (xLoad Tryz.prog 27 s.h.get (R s 37)) (O 22 JT 5):=oR
theorem zmv:O 22 JT 5 s=stepV s (some 39) (some { v:=(R s 11) }) (O 22 JT 6):=oR
theorem zmw:O 22 JT 6 s=stepV s (some 40) (litS Tryz.prog false 27 1 [(0,(R s 39))] s.h.n) (O 22 JT 7):=oR
theorem zmx:O 22 JT 7 s=stepV s (some 41) (builtinV Tryz.prog true s.h.get s.h.n .append [27,27] [(R s 38),(R s 40)]) (O 22 JT 8):=oR
theorem zmy:O 22 JT 8 s=stepV s (some 42) (xNilCheck Tryz.prog (R s 34)) (O 22 JT 9):=oR
theorem zmz:O 22 JT 9 s=stepV s (some 43) (val (addrAdd (R s 42) 2)) (O 22 JT 10):=oR
theorem zmq:O 22 JT 10 s=stepV s none (xStore Tryz.prog 27 s.h.get (R s 43) (R s 41)) (O 22 JT 11):=oR
theorem zmr:O 22 JT 11 s=some [(.normal,s)]:=zc (by kernel_rfl) s
def J4:Code:=codeA zmB
def zmO:Code:=codeB zmB
theorem zmC:C 22 zmB s=thenV (C 22 J4 s) (C 22 zmO):=za (a:=J4) (b:=zmO) (by kernel_rfl) _ _
theorem zmN:C 22 J4 s=O 22 J4 0 s:=zb (id:=7) (ops:=regOps J4) (by kernel_rfl) (by kernel_rfl) s
theorem zmD:O 22 J4 0 s=stepV s (some 44) (some { v:=(R s 10) }) (O 22 J4 1):=oR
theorem zmE:O 22 J4 1 s=stepV s (some 45) (xNilCheck Tryz.prog (R s 44)) (O 22 J4 2):=oR
theorem zmF:O 22 J4 2 s=stepV s (some 46) (val (addrAdd (R s 45) 3)) (O 22 J4 3):=oR
theorem zmG:O 22 J4 3 s=stepV s (some 47) (xLoad Tryz.prog 78 s.h.get (R s 46)) (O 22 J4 4):=oR
theorem zmH:O 22 J4 4 s=stepV s (some 48) (some { v:=(R s 11) }) (O 22 J4 5):=oR
theorem zmI:O 22 J4 5 s=stepV s (some 49) (some { v:=(R s 11) }) (O 22 J4 6):=oR
theorem zmJ:O 22 J4 6 s=stepV s (some 50) (litS Tryz.prog false 27 1 [(0,(R s 49))] s.h.n) (O 22 J4 7):=oR
theorem zmK:O 22 J4 7 s=stepV s (some 51) (val (indexAddr Tryz.prog 78 (R s 47) (R s 48))) (O 22 J4 8):=oR
theorem zmL:O 22 J4 8 s=stepV s none (xStore Tryz.prog 27 s.h.get (R s 51) (R s 50)) (O 22 J4 9):=oR
theorem zmM:O 22 J4 9 s=some [(.normal,s)]:=zc (by kernel_rfl) s
def JZ:Code:=codeA zmO
def JU:Code:=codeB zmO
theorem zmP:C 22 zmO s=thenV (C 22 JZ s) (C 22 JU):=za (a:=JZ) (b:=JU) (by kernel_rfl) _ _
theorem zm1:C 22 JZ s=O 22 JZ 0 s:=zb (id:=8) (ops:=regOps JZ) (by kernel_rfl) (by kernel_rfl) s
theorem zmQ:O 22 JZ 0 s=stepV s (some 52) (some { v:=(R s 10) }) (O 22 JZ 1):=oR
theorem zmR:O 22 JZ 1 s=stepV s (some 53) (some { v:=(R s 10) }) (O 22 JZ 2):=oR
theorem zmT:O 22 JZ 2 s=stepV s (some 54) (xNilCheck Tryz.prog (R s 53)) (O 22 JZ 3):=oR
theorem zmU:O 22 JZ 3 s=stepV s (some 55) (val (addrAdd (R s 54) 6)) (O 22 JZ 4):=oR
theorem zmV:O 22 JZ 4 s=stepV s (some 56) (xLoad Tryz.prog 27 s.h.get (R s 55)) (O 22 JZ 5):=oR
theorem zmW:O 22 JZ 5 s=stepV s (some 57) (litS Tryz.prog false 27 1 [(0,(.int .i64 (-1)))] s.h.n) (O 22 JZ 6):=oR
theorem zmX:O 22 JZ 6 s=stepV s (some 58) (builtinV Tryz.prog true s.h.get s.h.n .append [27,27] [(R s 56),(R s 57)]) (O 22 JZ 7):=oR
theorem zmY:O 22 JZ 7 s=stepV s (some 59) (xNilCheck Tryz.prog (R s 52)) (O 22 JZ 8):=oR
theorem zmZ:O 22 JZ 8 s=stepV s (some 60) (val (addrAdd (R s 59) 6)) (O 22 JZ 9):=oR
theorem zm0:O 22 JZ 9 s=stepV s none (xStore Tryz.prog 27 s.h.get (R s 60) (R s 58)) (O 22 JZ 10):=oR
theorem zmS:O 22 JZ 10 s=some [(.normal,s)]:=zc (by kernel_rfl) s
theorem zne:C 22 JU s=O 22 JU 0 s:=zb (id:=9) (ops:=regOps JU) (by kernel_rfl) (by kernel_rfl) s
theorem zm2:O 22 JU 0 s=stepV s (some 61) (some { v:=(R s 10) }) (O 22 JU 1):=oR
theorem zm3:O 22 JU 1 s=stepV s (some 62) (some { v:=(R s 10) }) (O 22 JU 2):=oR
theorem zm6:O 22 JU 2 s=stepV s (some 63) (xNilCheck Tryz.prog (R s 62)) (O 22 JU 3):=oR
theorem zm7:O 22 JU 3 s=stepV s (some 64) (val (addrAdd (R s 63) 7)) (O 22 JU 4):=oR
theorem zm8:O 22 JU 4 s=stepV s (some 65) (xLoad Tryz.prog 80 s.h.get (R s 64)) (O 22 JU 5):=oR
theorem zm9:O 22 JU 5 s=stepV s (some 66) (val (build Tryz.prog 126 [])) (O 22 JU 6):=oR
theorem zna:O 22 JU 6 s=stepV s (some 67) (litS Tryz.prog false 80 1 [(0,(R s 66))] s.h.n) (O 22 JU 7):=oR
theorem znb:O 22 JU 7 s=stepV s (some 68) (builtinV Tryz.prog true s.h.get s.h.n .append [80,80] [(R s 65),(R s 67)]) (O 22 JU 8):=oR
theorem znc:O 22 JU 8 s=stepV s (some 69) (xNilCheck Tryz.prog (R s 61)) (O 22 JU 9):=oR
theorem znd:O 22 JU 9 s=stepV s (some 70) (val (addrAdd (R s 69) 7)) (O 22 JU 10):=oR
theorem zm4:O 22 JU 10 s=stepV s none (xStore Tryz.prog 80 s.h.get (R s 70) (R s 68)) (O 22 JU 11):=oR
theorem zm5:O 22 JU 11 s=some [(.normal,s)]:=zc (by kernel_rfl) s
theorem zmf:C 22 zbe s=O 22 zbe 0 s:=zb (id:=10) (ops:=regOps zbe) (by kernel_rfl) (by kernel_rfl) s
theorem zmc:O 22 zbe 0 s=stepV s (some 71) (val (binV Tryz.prog .add 3 false true (R s 31) (.int .i64 (1)))) (O 22 zbe 1):=oR
theorem zmd:O 22 zbe 1 s=stepV s (some 31) (some { v:=(R s 71) }) (O 22 zbe 2):=oR
theorem zme:O 22 zbe 2 s=some [(.normal,s)]:=zc (by kernel_rfl) s
def znf:Code:=codeA zp2
def zno:Code:=codeB zp2
theorem zdw:C 22 zp2 s=thenV (C 22 znf s) (C 22 zno):=za (a:=znf) (b:=zno) (by kernel_rfl) _ _
def zan:Code:=codeA znf
def zxf:Code:=codeB znf
theorem zdn:C 22 znf s=thenV (C 22 zan s) (C 22 zxf):=za (a:=zan) (b:=zxf) (by kernel_rfl) _ _
theorem znt:C 22 zan s=O 22 zan 0 s:=zb (id:=11) (ops:=regOps zan) (by kernel_rfl) (by kernel_rfl) s
theorem znp:O 22 zan 0 s=stepV s (some 72) (some { v:=(R s 1) }) (O 22 zan 1):=oR
theorem znq:O 22 zan 1 s=stepV s (some 73) (builtinV Tryz.prog false s.h.get s.h.n .len [22] [(R s 72)]) (O 22 zan 2):=oR
theorem znr:O 22 zan 2 s=stepV s (some 74) (some { v:=(.int .i64 (0)) }) (O 22 zan 3):=oR
theorem zns:O 22 zan 3 s=some [(.normal,s)]:=zc (by kernel_rfl) s
def zjL:Code:=codeA zxf
theorem zdp:C 22 zxf s=blockV 2 (C 22 zjL s):=zu (b:=zjL) (by kernel_rfl) _ _
def znu:Code:=codeA zjL
theorem zAx:C 22 zjL s=thenV (C 22 znu s) (C 22 zjL):=ZG (b:=znu) (by kernel_rfl) _ _
def zcg:Code:=codeA znu
def znz:Code:=codeB znu
theorem znv:C 22 znu s=thenV (C 22 zcg s) (C 22 znz):=za (a:=zcg) (b:=znz) (by kernel_rfl) _ _
theorem zny:C 22 zcg s=O 22 zcg 0 s:=zb (id:=12) (ops:=regOps zcg) (by kernel_rfl) (by kernel_rfl) s
theorem znw:O 22 zcg 0 s=stepV s (some 75) (val (binV Tryz.prog .lss 3 false false (R s 74) (R s 73))) (O 22 zcg 1):=oR
theorem znx:O 22 zcg 1 s=some [(.normal,s)]:=zc (by kernel_rfl) s
def znB:Code:=codeA znz
def znD:Code:=codeB znz
theorem znA:C 22 znz s=thenV (C 22 znB s) (C 22 znD):=za (a:=znB) (b:=znD) (by kernel_rfl) _ _
def zAy:Code:=codeA znB
def zAz:Code:=codeB znB
theorem znC:C 22 znB s=condV (R s 75) (C 22 zAy) (C 22 zAz) s:=zl (t:=75) (a:=zAy) (b:=zAz) (by kernel_rfl) _ _
theorem znE:C 22 zAy s=some [(.normal,s)]:=zp (by kernel_rfl) _ _
theorem znF:C 22 zAz s=some [(.exit 2,s)]:=Zx (by kernel_rfl) _ _
def zxg:Code:=codeA znD
def zbg:Code:=codeB znD
theorem zch:C 22 znD s=thenV (C 22 zxg s) (C 22 zbg):=za (a:=zxg) (b:=zbg) (by kernel_rfl) _ _
def znK:Code:=codeA zxg
theorem zjN:C 22 zxg s=blockV 3 (C 22 znK s):=zu (b:=znK) (by kernel_rfl) _ _
def Qy:Code:=codeA znK
def znT:Code:=codeB znK
theorem zci:C 22 znK s=thenV (C 22 Qy s) (C 22 znT):=za (a:=Qy) (b:=znT) (by kernel_rfl) _ _
theorem znS:C 22 Qy s=O 22 Qy 0 s:=zb (id:=13) (ops:=regOps Qy) (by kernel_rfl) (by kernel_rfl) s
theorem znL:O 22 Qy 0 s=stepV s (some 76) (some { v:=(R s 74) }) (O 22 Qy 1):=oR
theorem znM:O 22 Qy 1 s=stepV s (some 77) (val (indexAddr Tryz.prog 22 (R s 72) (R s 74))) (O 22 Qy 2):=oR
theorem znN:O 22 Qy 2 s=stepV s (some 78) (xLoad Tryz.prog 42 s.h.get (R s 77)) (O 22 Qy 3):=oR
theorem znO:O 22 Qy 3 s=stepV s (some 13) (some { v:=.ptr s.h.n 0,nw:=[.row 0 [.int .i64 (0),.int .i64 (0)]] }) (O 22 Qy 4):=oR
theorem znP:O 22 Qy 4 s=stepV s (some 12) (some { v:=(R s 76) }) (O 22 Qy 5):=oR
theorem znQ:O 22 Qy 5 s=stepV s none (xStore Tryz.prog 42 s.h.get (R s 13) (R s 78)) (O 22 Qy 6):=oR
theorem znR:O 22 Qy 6 s=some [(.normal,s)]:=zc (by kernel_rfl) s
def QZ:Code:=codeA znT
def zn0:Code:=codeB znT
theorem zjO:C 22 znT s=thenV (C 22 QZ s) (C 22 zn0):=za (a:=QZ) (b:=zn0) (by kernel_rfl) _ _
theorem znZ:C 22 QZ s=O 22 QZ 0 s:=zb (id:=14) (ops:=regOps QZ) (by kernel_rfl) (by kernel_rfl) s
theorem znU:O 22 QZ 0 s=stepV s (some 79) (some { v:=(R s 0) }) (O 22 QZ 1):=oR
theorem znV:O 22 QZ 1 s=stepV s (some 80) (some { v:=(R s 12) }) (O 22 QZ 2):=oR
theorem znW:O 22 QZ 2 s=stepV s (some 81) (val (binV Tryz.prog .add 3 false false (R s 79) (R s 80))) (O 22 QZ 3):=oR
theorem znX:O 22 QZ 3 s=stepV s (some 14) (some { v:=(R s 81) }) (O 22 QZ 4):=oR
theorem znY:O 22 QZ 4 s=some [(.normal,s)]:=zc (by kernel_rfl) s
def zj:Code:=codeA zn0
def zoy:Code:=codeB zn0
theorem zjP:C 22 zn0 s=thenV (C 22 zj s) (C 22 zoy):=za (a:=zj) (b:=zoy) (by kernel_rfl) _ _
def zf:List Nat:=[0,1,3,7,0,16,48,112,0,256,1008,2032,0,4096,12288,28672,0,65536,196608,458752,0,1048576,4128768,8323072,16773120,33550336,0,67108864,268431360,536870911,1073741823]
theorem zox:C 22 zj s=D 22 zj zf 0 [] s:=JI (id:=15) (ops:=regOps zj) (by kernel_rfl) (by kernel_rfl) (by kernel_rfl) (by kernel_rfl) s
theorem zn1:D 22 zj zf 0 dn s=stepD s (some 82) 0 zf dn (some { v:=(R s 10) }) (D 22 zj zf 1):=dR
theorem zn2:D 22 zj zf 1 dn s=stepD s (some 83) 1 zf dn (xNilCheck Tryz.prog (R s 82)) (D 22 zj zf 2):=dR
theorem zod:D 22 zj zf 2 dn s=stepD s (some 84) 2 zf dn (val (addrAdd (R s 83) 4)) (D 22 zj zf 3):=dR
theorem zoo:D 22 zj zf 3 dn s=stepD s (some 85) 3 zf dn (xLoad Tryz.prog 78 s.h.get (R s 84)) (D 22 zj zf 4):=dR
theorem zor:D 22 zj zf 4 dn s=stepD s (some 86) 4 zf dn (some { v:=(R s 10) }) (D 22 zj zf 5):=dR
theorem zos:D 22 zj zf 5 dn s=stepD s (some 87) 5 zf dn (xNilCheck Tryz.prog (R s 86)) (D 22 zj zf 6):=dR
theorem zot:D 22 zj zf 6 dn s=stepD s (some 88) 6 zf dn (val (addrAdd (R s 87) 2)) (D 22 zj zf 7):=dR
theorem zou:D 22 zj zf 7 dn s=stepD s (some 89) 7 zf dn (xLoad Tryz.prog 27 s.h.get (R s 88)) (D 22 zj zf 8):=dR
theorem zov:D 22 zj zf 8 dn s=stepD s (some 90) 8 zf dn (val (indexAddr Tryz.prog 42 (R s 13) (.int .i64 (0)))) (D 22 zj zf 9):=dR
theorem zow:D 22 zj zf 9 dn s=stepD s (some 91) 9 zf dn (xLoad Tryz.prog 3 s.h.get (R s 90)) (D 22 zj zf 10):=dR
theorem zn3:D 22 zj zf 10 dn s=stepD s (some 92) 10 zf dn (val (indexAddr Tryz.prog 27 (R s 89) (R s 91))) (D 22 zj zf 11):=dR
theorem zn4:D 22 zj zf 11 dn s=stepD s (some 93) 11 zf dn (xLoad Tryz.prog 3 s.h.get (R s 92)) (D 22 zj zf 12):=dR
theorem zn5:D 22 zj zf 12 dn s=stepD s (some 94) 12 zf dn (some { v:=(R s 10) }) (D 22 zj zf 13):=dR
theorem zn6:D 22 zj zf 13 dn s=stepD s (some 95) 13 zf dn (xNilCheck Tryz.prog (R s 94)) (D 22 zj zf 14):=dR
theorem zn7:D 22 zj zf 14 dn s=stepD s (some 96) 14 zf dn (val (addrAdd (R s 95) 4)) (D 22 zj zf 15):=dR
theorem zn8:D 22 zj zf 15 dn s=stepD s (some 97) 15 zf dn (xLoad Tryz.prog 78 s.h.get (R s 96)) (D 22 zj zf 16):=dR
theorem zn9:D 22 zj zf 16 dn s=stepD s (some 98) 16 zf dn (some { v:=(R s 10) }) (D 22 zj zf 17):=dR
theorem zoa:D 22 zj zf 17 dn s=stepD s (some 99) 17 zf dn (xNilCheck Tryz.prog (R s 98)) (D 22 zj zf 18):=dR
theorem zob:D 22 zj zf 18 dn s=stepD s (some 100) 18 zf dn (val (addrAdd (R s 99) 2)) (D 22 zj zf 19):=dR
theorem zoc:D 22 zj zf 19 dn s=stepD s (some 101) 19 zf dn (xLoad Tryz.prog 27 s.h.get (R s 100)) (D 22 zj zf 20):=dR
theorem zoe:D 22 zj zf 20 dn s=stepD s (some 102) 20 zf dn (val (indexAddr Tryz.prog 42 (R s 13) (.int .i64 (0)))) (D 22 zj zf 21):=dR
theorem zof:D 22 zj zf 21 dn s=stepD s (some 103) 21 zf dn (xLoad Tryz.prog 3 s.h.get (R s 102)) (D 22 zj zf 22):=dR
theorem zog:D 22 zj zf 22 dn s=stepD s (some 104) 22 zf dn (val (indexAddr Tryz.prog 27 (R s 101) (R s 103))) (D 22 zj zf 23):=dR
theorem zoh:D 22 zj zf 23 dn s=stepD s (some 105) 23 zf dn (xLoad Tryz.prog 3 s.h.get (R s 104)) (D 22 zj zf 24):=dR
theorem zoi:D 22 zj zf 24 dn s=stepD s (some 106) 24 zf dn (val (indexAddr Tryz.prog 78 (R s 97) (R s 105))) (D 22 zj zf 25):=dR
theorem zoj:D 22 zj zf 25 dn s=stepD s (some 107) 25 zf dn (xLoad Tryz.prog 27 s.h.get (R s 106)) (D 22 zj zf 26):=dR
theorem zok:D 22 zj zf 26 dn s=stepD s (some 108) 26 zf dn (some { v:=(R s 14) }) (D 22 zj zf 27):=dR
theorem zol:D 22 zj zf 27 dn s=stepD s (some 109) 27 zf dn (litS Tryz.prog false 27 1 [(0,(R s 108))] s.h.n) (D 22 zj zf 28):=dR
theorem zom:D 22 zj zf 28 dn s=stepD s (some 110) 28 zf dn (builtinV Tryz.prog false s.h.get s.h.n .append [27,27] [(R s 107),(R s 109)]) (D 22 zj zf 29):=dR
theorem zon:D 22 zj zf 29 dn s=stepD s (some 111) 29 zf dn (val (indexAddr Tryz.prog 78 (R s 85) (R s 93))) (D 22 zj zf 30):=dR
theorem zop:D 22 zj zf 30 dn s=stepD s none 30 zf dn (xStore Tryz.prog 27 s.h.get (R s 111) (R s 110)) (D 22 zj zf 31):=dR
theorem zoq:D 22 zj zf 31 dn s=some [(.normal,s)]:=JJ (by kernel_rfl) dn s
def zk:Code:=codeA zoy
def zao:Code:=codeB zoy
theorem zjQ:C 22 zoy s=thenV (C 22 zk s) (C 22 zao):=za (a:=zk) (b:=zao) (by kernel_rfl) _ _
def zg:List Nat:=[0,1,3,7,0,16,48,112,0,256,1008,2032,0,4096,12288,28672,0,65536,196608,458752,0,1048576,4128768,8323072,16773120,33550336,0,67108864,268431360,536870911,1073741823]
theorem zpi:C 22 zk s=D 22 zk zg 0 [] s:=JI (id:=16) (ops:=regOps zk) (by kernel_rfl) (by kernel_rfl) (by kernel_rfl) (by kernel_rfl) s
theorem zoM:D 22 zk zg 0 dn s=stepD s (some 112) 0 zg dn (some { v:=(R s 10) }) (D 22 zk zg 1):=dR
theorem zoN:D 22 zk zg 1 dn s=stepD s (some 113) 1 zg dn (xNilCheck Tryz.prog (R s 112)) (D 22 zk zg 2):=dR
theorem zoY:D 22 zk zg 2 dn s=stepD s (some 114) 2 zg dn (val (addrAdd (R s 113) 4)) (D 22 zk zg 3):=dR
theorem zo9:D 22 zk zg 3 dn s=stepD s (some 115) 3 zg dn (xLoad Tryz.prog 78 s.h.get (R s 114)) (D 22 zk zg 4):=dR
theorem zpc:D 22 zk zg 4 dn s=stepD s (some 116) 4 zg dn (some { v:=(R s 10) }) (D 22 zk zg 5):=dR
theorem zpd:D 22 zk zg 5 dn s=stepD s (some 117) 5 zg dn (xNilCheck Tryz.prog (R s 116)) (D 22 zk zg 6):=dR
theorem zpe:D 22 zk zg 6 dn s=stepD s (some 118) 6 zg dn (val (addrAdd (R s 117) 2)) (D 22 zk zg 7):=dR
theorem zpf:D 22 zk zg 7 dn s=stepD s (some 119) 7 zg dn (xLoad Tryz.prog 27 s.h.get (R s 118)) (D 22 zk zg 8):=dR
theorem zpg:D 22 zk zg 8 dn s=stepD s (some 120) 8 zg dn (val (indexAddr Tryz.prog 42 (R s 13) (.int .i64 (1)))) (D 22 zk zg 9):=dR
theorem zph:D 22 zk zg 9 dn s=stepD s (some 121) 9 zg dn (xLoad Tryz.prog 3 s.h.get (R s 120)) (D 22 zk zg 10):=dR
theorem zoO:D 22 zk zg 10 dn s=stepD s (some 122) 10 zg dn (val (indexAddr Tryz.prog 27 (R s 119) (R s 121))) (D 22 zk zg 11):=dR
theorem zoP:D 22 zk zg 11 dn s=stepD s (some 123) 11 zg dn (xLoad Tryz.prog 3 s.h.get (R s 122)) (D 22 zk zg 12):=dR
theorem zoQ:D 22 zk zg 12 dn s=stepD s (some 124) 12 zg dn (some { v:=(R s 10) }) (D 22 zk zg 13):=dR
theorem zoR:D 22 zk zg 13 dn s=stepD s (some 125) 13 zg dn (xNilCheck Tryz.prog (R s 124)) (D 22 zk zg 14):=dR
theorem zoS:D 22 zk zg 14 dn s=stepD s (some 126) 14 zg dn (val (addrAdd (R s 125) 4)) (D 22 zk zg 15):=dR
theorem zoT:D 22 zk zg 15 dn s=stepD s (some 127) 15 zg dn (xLoad Tryz.prog 78 s.h.get (R s 126)) (D 22 zk zg 16):=dR
theorem zoU:D 22 zk zg 16 dn s=stepD s (some 128) 16 zg dn (some { v:=(R s 10) }) (D 22 zk zg 17):=dR
theorem zoV:D 22 zk zg 17 dn s=stepD s (some 129) 17 zg dn (xNilCheck Tryz.prog (R s 128)) (D 22 zk zg 18):=dR
theorem zoW:D 22 zk zg 18 dn s=stepD s (some 130) 18 zg dn (val (addrAdd (R s 129) 2)) (D 22 zk zg 19):=dR
theorem zoX:D 22 zk zg 19 dn s=stepD s (some 131) 19 zg dn (xLoad Tryz.prog 27 s.h.get (R s 130)) (D 22 zk zg 20):=dR
theorem zoZ:D 22 zk zg 20 dn s=stepD s (some 132) 20 zg dn (val (indexAddr Tryz.prog 42 (R s 13) (.int .i64 (1)))) (D 22 zk zg 21):=dR
theorem zo0:D 22 zk zg 21 dn s=stepD s (some 133) 21 zg dn (xLoad Tryz.prog 3 s.h.get (R s 132)) (D 22 zk zg 22):=dR
theorem zo1:D 22 zk zg 22 dn s=stepD s (some 134) 22 zg dn (val (indexAddr Tryz.prog 27 (R s 131) (R s 133))) (D 22 zk zg 23):=dR
theorem zo2:D 22 zk zg 23 dn s=stepD s (some 135) 23 zg dn (xLoad Tryz.prog 3 s.h.get (R s 134)) (D 22 zk zg 24):=dR
theorem zo3:D 22 zk zg 24 dn s=stepD s (some 136) 24 zg dn (val (indexAddr Tryz.prog 78 (R s 127) (R s 135))) (D 22 zk zg 25):=dR
theorem zo4:D 22 zk zg 25 dn s=stepD s (some 137) 25 zg dn (xLoad Tryz.prog 27 s.h.get (R s 136)) (D 22 zk zg 26):=dR
theorem zo5:D 22 zk zg 26 dn s=stepD s (some 138) 26 zg dn (some { v:=(R s 14) }) (D 22 zk zg 27):=dR
theorem zo6:D 22 zk zg 27 dn s=stepD s (some 139) 27 zg dn (litS Tryz.prog false 27 1 [(0,(R s 138))] s.h.n) (D 22 zk zg 28):=dR
theorem zo7:D 22 zk zg 28 dn s=stepD s (some 140) 28 zg dn (builtinV Tryz.prog false s.h.get s.h.n .append [27,27] [(R s 137),(R s 139)]) (D 22 zk zg 29):=dR
theorem zo8:D 22 zk zg 29 dn s=stepD s (some 141) 29 zg dn (val (indexAddr Tryz.prog 78 (R s 115) (R s 123))) (D 22 zk zg 30):=dR
theorem zpa:D 22 zk zg 30 dn s=stepD s none 30 zg dn (xStore Tryz.prog 27 s.h.get (R s 141) (R s 140)) (D 22 zk zg 31):=dR
theorem zpb:D 22 zk zg 31 dn s=some [(.normal,s)]:=JJ (by kernel_rfl) dn s
theorem zpn:C 22 zao s=O 22 zao 0 s:=zb (id:=17) (ops:=regOps zao) (by kernel_rfl) (by kernel_rfl) s
theorem zpj:O 22 zao 0 s=stepV s (some 142) (some { v:=(R s 10) }) (O 22 zao 1):=oR
theorem zpk:O 22 zao 1 s=stepV s (some 143) (some { v:=(R s 14) }) (O 22 zao 2):=oR
theorem zpl:O 22 zao 2 s=thenC (some 144) s (callS Tryz.prog hs ks 48 [(R s 142),(R s 143)] s.h) (O 22 zao 3):=cR
theorem zpm:O 22 zao 3 s=some [(.normal,s)]:=zc (by kernel_rfl) s
theorem znJ:C 22 zbg s=O 22 zbg 0 s:=zb (id:=18) (ops:=regOps zbg) (by kernel_rfl) (by kernel_rfl) s
theorem znG:O 22 zbg 0 s=stepV s (some 145) (val (binV Tryz.prog .add 3 false true (R s 74) (.int .i64 (1)))) (O 22 zbg 1):=oR
theorem znH:O 22 zbg 1 s=stepV s (some 74) (some { v:=(R s 145) }) (O 22 zbg 2):=oR
theorem znI:O 22 zbg 2 s=some [(.normal,s)]:=zc (by kernel_rfl) s
def zpo:Code:=codeA zno
def zpp:Code:=codeB zno
theorem zdo:C 22 zno s=thenV (C 22 zpo s) (C 22 zpp):=za (a:=zpo) (b:=zpp) (by kernel_rfl) _ _
def zap:Code:=codeA zpo
def zxh:Code:=codeB zpo
theorem zdq:C 22 zpo s=thenV (C 22 zap s) (C 22 zxh):=za (a:=zap) (b:=zxh) (by kernel_rfl) _ _
theorem zpu:C 22 zap s=O 22 zap 0 s:=zb (id:=19) (ops:=regOps zap) (by kernel_rfl) (by kernel_rfl) s
theorem zpq:O 22 zap 0 s=stepV s (some 146) (some { v:=(R s 2) }) (O 22 zap 1):=oR
theorem zpr:O 22 zap 1 s=stepV s (some 147) (builtinV Tryz.prog false s.h.get s.h.n .len [22] [(R s 146)]) (O 22 zap 2):=oR
theorem zps:O 22 zap 2 s=stepV s (some 148) (some { v:=(.int .i64 (0)) }) (O 22 zap 3):=oR
theorem zpt:O 22 zap 3 s=some [(.normal,s)]:=zc (by kernel_rfl) s
def zjR:Code:=codeA zxh
theorem zds:C 22 zxh s=blockV 4 (C 22 zjR s):=zu (b:=zjR) (by kernel_rfl) _ _
def zpv:Code:=codeA zjR
theorem zAA:C 22 zjR s=thenV (C 22 zpv s) (C 22 zjR):=ZG (b:=zpv) (by kernel_rfl) _ _
def zcj:Code:=codeA zpv
def zpA:Code:=codeB zpv
theorem zpw:C 22 zpv s=thenV (C 22 zcj s) (C 22 zpA):=za (a:=zcj) (b:=zpA) (by kernel_rfl) _ _
theorem zpz:C 22 zcj s=O 22 zcj 0 s:=zb (id:=20) (ops:=regOps zcj) (by kernel_rfl) (by kernel_rfl) s
theorem zpx:O 22 zcj 0 s=stepV s (some 149) (val (binV Tryz.prog .lss 3 false false (R s 148) (R s 147))) (O 22 zcj 1):=oR
theorem zpy:O 22 zcj 1 s=some [(.normal,s)]:=zc (by kernel_rfl) s
def zpD:Code:=codeA zpA
def zpF:Code:=codeB zpA
theorem zpB:C 22 zpA s=thenV (C 22 zpD s) (C 22 zpF):=za (a:=zpD) (b:=zpF) (by kernel_rfl) _ _
def zAB:Code:=codeA zpD
def zAC:Code:=codeB zpD
theorem zpE:C 22 zpD s=condV (R s 149) (C 22 zAB) (C 22 zAC) s:=zl (t:=149) (a:=zAB) (b:=zAC) (by kernel_rfl) _ _
theorem zpG:C 22 zAB s=some [(.normal,s)]:=zp (by kernel_rfl) _ _
theorem zpH:C 22 zAC s=some [(.exit 4,s)]:=Zx (by kernel_rfl) _ _
def zxi:Code:=codeA zpF
def zbh:Code:=codeB zpF
theorem zck:C 22 zpF s=thenV (C 22 zxi s) (C 22 zbh):=za (a:=zxi) (b:=zbh) (by kernel_rfl) _ _
def zpM:Code:=codeA zxi
theorem zjS:C 22 zxi s=blockV 5 (C 22 zpM s):=zu (b:=zpM) (by kernel_rfl) _ _
def Qz:Code:=codeA zpM
def zpV:Code:=codeB zpM
theorem zdu:C 22 zpM s=thenV (C 22 Qz s) (C 22 zpV):=za (a:=Qz) (b:=zpV) (by kernel_rfl) _ _
theorem zpU:C 22 Qz s=O 22 Qz 0 s:=zb (id:=21) (ops:=regOps Qz) (by kernel_rfl) (by kernel_rfl) s
theorem zpN:O 22 Qz 0 s=stepV s (some 150) (some { v:=(R s 148) }) (O 22 Qz 1):=oR
theorem zpO:O 22 Qz 1 s=stepV s (some 151) (val (indexAddr Tryz.prog 22 (R s 146) (R s 148))) (O 22 Qz 2):=oR
theorem zpP:O 22 Qz 2 s=stepV s (some 152) (xLoad Tryz.prog 42 s.h.get (R s 151)) (O 22 Qz 3):=oR
theorem zpQ:O 22 Qz 3 s=stepV s (some 16) (some { v:=.ptr s.h.n 0,nw:=[.row 0 [.int .i64 (0),.int .i64 (0)]] }) (O 22 Qz 4):=oR
theorem zpR:O 22 Qz 4 s=stepV s (some 15) (some { v:=(R s 150) }) (O 22 Qz 5):=oR
theorem zpS:O 22 Qz 5 s=stepV s none (xStore Tryz.prog 42 s.h.get (R s 16) (R s 152)) (O 22 Qz 6):=oR
theorem zpT:O 22 Qz 6 s=some [(.normal,s)]:=zc (by kernel_rfl) s
def zaq:Code:=codeA zpV
def zp3:Code:=codeB zpV
theorem zpW:C 22 zpV s=thenV (C 22 zaq s) (C 22 zp3):=za (a:=zaq) (b:=zp3) (by kernel_rfl) _ _
theorem zp1:C 22 zaq s=O 22 zaq 0 s:=zb (id:=22) (ops:=regOps zaq) (by kernel_rfl) (by kernel_rfl) s
theorem zpX:O 22 zaq 0 s=stepV s (some 153) (some { v:=(R s 3) }) (O 22 zaq 1):=oR
theorem zpY:O 22 zaq 1 s=stepV s (some 154) (some { v:=(R s 15) }) (O 22 zaq 2):=oR
theorem zpZ:O 22 zaq 2 s=thenC (some 155) s (callX Tryz.prog hs ks (callOf (R s 153) [(R s 154)]) s.h) (O 22 zaq 3):=xR
theorem zp0:O 22 zaq 3 s=some [(.normal,s)]:=zc (by kernel_rfl) s
def Qg:Code:=codeA zp3
def zAD:Code:=codeB zp3
theorem zp4:C 22 zp3 s=condV (R s 155) (C 22 Qg) (C 22 zAD) s:=zl (t:=155) (a:=Qg) (b:=zAD) (by kernel_rfl) _ _
theorem zqe:C 22 Qg s=O 22 Qg 0 s:=zb (id:=23) (ops:=regOps Qg) (by kernel_rfl) (by kernel_rfl) s
theorem zp5:O 22 Qg 0 s=stepV s (some 156) (some { v:=(R s 10) }) (O 22 Qg 1):=oR
theorem zp6:O 22 Qg 1 s=stepV s (some 157) (val (indexAddr Tryz.prog 42 (R s 16) (.int .i64 (0)))) (O 22 Qg 2):=oR
theorem zp7:O 22 Qg 2 s=stepV s (some 158) (xLoad Tryz.prog 3 s.h.get (R s 157)) (O 22 Qg 3):=oR
theorem zp8:O 22 Qg 3 s=stepV s (some 159) (val (indexAddr Tryz.prog 42 (R s 16) (.int .i64 (1)))) (O 22 Qg 4):=oR
theorem zp9:O 22 Qg 4 s=stepV s (some 160) (xLoad Tryz.prog 3 s.h.get (R s 159)) (O 22 Qg 5):=oR
theorem zqa:O 22 Qg 5 s=stepV s (some 161) (some { v:=(R s 15) }) (O 22 Qg 6):=oR
theorem zqb:O 22 Qg 6 s=stepV s (some 162) (val (build Tryz.prog 126 [(0,(R s 158)),(1,(R s 160)),(2,(R s 161))])) (O 22 Qg 7):=oR
theorem zqc:O 22 Qg 7 s=thenC (some 163) s (callS Tryz.prog hs ks 49 [(R s 156),(R s 162)] s.h) (O 22 Qg 8):=cR
theorem zqd:O 22 Qg 8 s=some [(.normal,s)]:=zc (by kernel_rfl) s
theorem zqf:C 22 zAD s=some [(.normal,s)]:=zp (by kernel_rfl) _ _
theorem zpL:C 22 zbh s=O 22 zbh 0 s:=zb (id:=24) (ops:=regOps zbh) (by kernel_rfl) (by kernel_rfl) s
theorem zpI:O 22 zbh 0 s=stepV s (some 164) (val (binV Tryz.prog .add 3 false true (R s 148) (.int .i64 (1)))) (O 22 zbh 1):=oR
theorem zpJ:O 22 zbh 1 s=stepV s (some 148) (some { v:=(R s 164) }) (O 22 zbh 2):=oR
theorem zpK:O 22 zbh 2 s=some [(.normal,s)]:=zc (by kernel_rfl) s
def zbi:Code:=codeA zpp
def zAE:Code:=codeB zpp
theorem zdr:C 22 zpp s=thenV (C 22 zbi s) (C 22 zAE):=za (a:=zbi) (b:=zAE) (by kernel_rfl) _ _
theorem zqj:C 22 zbi s=O 22 zbi 0 s:=zb (id:=25) (ops:=regOps zbi) (by kernel_rfl) (by kernel_rfl) s
theorem zqg:O 22 zbi 0 s=stepV s (some 165) (some { v:=(R s 10) }) (O 22 zbi 1):=oR
theorem zqh:O 22 zbi 1 s=stepV s (some 8) (some { v:=(R s 165) }) (O 22 zbi 2):=oR
theorem zqi:O 22 zbi 2 s=some [(.normal,s)]:=zc (by kernel_rfl) s
theorem zqk:C 22 zAE s=some [(.ret,s)]:=Zb (by kernel_rfl) _ _
end Go.Proofs.YtdlaladdeelegaaGreat.Cg
end
