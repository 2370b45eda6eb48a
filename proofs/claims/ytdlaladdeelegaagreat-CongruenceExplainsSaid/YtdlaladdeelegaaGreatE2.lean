/- Equations of the code. -/
import Derived.Test.YtdlaladdeelegaaGreatE1
import Derived.KernelRfl
set_option linter.all false
noncomputable section
namespace Go.Proofs.YtdlaladdeelegaaGreat.Cg
section
open Go Go.Ae
section
variable (dn:List (Nat×Foot)) (s:St)
def k22:Code:=Tryz.f22.body.getD .skip
theorem zRn (args:List V) (ha:args.length≤166) (h:H):(EV Tryz.prog hs ks).call 22 args h=Zm1 Tryz.prog hs ks Tryz.f22 (C 22 k22 (S 166 (ZCl args 0 fun _=> ZmM) [] h)):=Qu Tryz.func22 (by kernel_rfl) (by kernel_rfl) (by decide) rfl ha h
theorem zjU (f:Nat→V) (h:H):Zm1 Tryz.prog hs ks Tryz.f22 (some [(.ret,S 166 f [] h)])=ZCp (ZCk Tryz.prog (S 166 f [] h) [.tmp 8]) h:=Zc (by kernel_rfl) (Or.inl rfl) _ _
def zce:Code:=ZgE k22
def zlX:Code:=ZhX k22
theorem zjT:C 22 k22 s=thenV (C 22 zce s) (C 22 zlX):=qS
theorem zlW:C 22 zce s=O 22 zce 0 s:=qG 0
theorem zlU:O 22 zce 0 s=Zbb s (some 8) (some {v:=(.nilp)}) (O 22 zce 1):=oR
theorem zlV:O 22 zce 1 s=some [(.normal,s)]:=qe
def QM:Code:=ZgE zlX
def znn:Code:=ZhX zlX
theorem zjK:C 22 zlX s=thenV (C 22 QM s) (C 22 znn):=qS
theorem znm:C 22 QM s=O 22 QM 0 s:=qG 1
theorem zng:O 22 QM 0 s=Zbb s (some 17) (some {v:=R s 0}) (O 22 QM 1):=oR
theorem znh:O 22 QM 1 s=Zbb s (some 18) (some {v:=R s 1}) (O 22 QM 2):=oR
theorem zni:O 22 QM 2 s=Zbb s (some 19) (ZmL Tryz.prog false s.h.get s.h.n .len [22] [R s 18]) (O 22 QM 3):=oR
theorem znj:O 22 QM 3 s=Zbb s (some 20) (val (ZmJ Tryz.prog .add 3 false false (R s 17) (R s 19))) (O 22 QM 4):=oR
theorem znk:O 22 QM 4 s=Zbb s (some 9) (some {v:=R s 20}) (O 22 QM 5):=oR
theorem znl:O 22 QM 5 s=some [(.normal,s)]:=qe
def J0:Code:=ZgE znn
def zoL:Code:=ZhX znn
theorem zjM:C 22 znn s=thenV (C 22 J0 s) (C 22 zoL):=qS
def ZC:List Nat:=[0,0,0,4,0,16,0,127,255,511]
theorem zoK:C 22 J0 s=D 22 J0 ZC 0 [] s:=qD 2
theorem zoz:D 22 J0 ZC 0 dn s=ZhW s (some 21) 0 ZC dn (some {v:=R s 0}) (D 22 J0 ZC 1):=dR
theorem zoA:D 22 J0 ZC 1 dn s=ZhW s (some 22) 1 ZC dn (some {v:=R s 1}) (D 22 J0 ZC 2):=dR
theorem zoC:D 22 J0 ZC 2 dn s=ZhW s (some 23) 2 ZC dn (some {v:=R s 9}) (D 22 J0 ZC 3):=dR
theorem zoD:D 22 J0 ZC 3 dn s=ZhW s (some 24) 3 ZC dn (mkS Tryz.prog 27 s.h.n (R s 23) (R s 23)) (D 22 J0 ZC 4):=dR
theorem zoE:D 22 J0 ZC 4 dn s=ZhW s (some 25) 4 ZC dn (some {v:=R s 9}) (D 22 J0 ZC 5):=dR
theorem zoF:D 22 J0 ZC 5 dn s=ZhW s (some 26) 5 ZC dn (mkS Tryz.prog 27 s.h.n (R s 25) (R s 25)) (D 22 J0 ZC 6):=dR
theorem zoG:D 22 J0 ZC 6 dn s=ZhW s (some 27) 6 ZC dn (some {v:=.map s.h.n,nw:=[.map [] 0]}) (D 22 J0 ZC 7):=dR
theorem zoH:D 22 J0 ZC 7 dn s=ZhW s (some 28) 7 ZC dn (val (build Tryz.prog 82 [(0,(R s 21)),(1,(R s 22)),(3,(R s 24)),(4,(R s 26)),(5,(R s 27))])) (D 22 J0 ZC 8):=dR
theorem zoI:D 22 J0 ZC 8 dn s=ZhW s (some 29) 8 ZC dn (some {v:=.ptr s.h.n 0,nw:=[.row 0 (V.cells (R s 28))]}) (D 22 J0 ZC 9):=dR
theorem zoJ:D 22 J0 ZC 9 dn s=ZhW s (some 10) 9 ZC dn (some {v:=R s 29}) (D 22 J0 ZC 10):=dR
theorem zoB:D 22 J0 ZC 10 dn s=some [(.normal,s)]:=qd
def zpC:Code:=ZgE zoL
def zp2:Code:=ZhX zoL
theorem zdt:C 22 zoL s=thenV (C 22 zpC s) (C 22 zp2):=qS
def zbj:Code:=ZgE zpC
def zxj:Code:=ZhX zpC
theorem zdv:C 22 zpC s=thenV (C 22 zbj s) (C 22 zxj):=qS
theorem zqo:C 22 zbj s=O 22 zbj 0 s:=qG 3
theorem zql:O 22 zbj 0 s=Zbb s (some 30) (some {v:=R s 9}) (O 22 zbj 1):=oR
theorem zqm:O 22 zbj 1 s=Zbb s (some 31) (some {v:=(.int .i64 (0))}) (O 22 zbj 2):=oR
theorem zqn:O 22 zbj 2 s=some [(.normal,s)]:=qe
def zjJ:Code:=ZgE zxj
theorem zdx:C 22 zxj s=ZmZ 0 (C 22 zjJ s):=qB
def zlY:Code:=ZgE zjJ
theorem zHq:C 22 zjJ s=thenV (C 22 zlY s) (C 22 zjJ):=qL
def zcf:Code:=ZgE zlY
def zl3:Code:=ZhX zlY
theorem zlZ:C 22 zlY s=thenV (C 22 zcf s) (C 22 zl3):=qS
theorem zl2:C 22 zcf s=O 22 zcf 0 s:=qG 4
theorem zl0:O 22 zcf 0 s=Zbb s (some 32) (val (ZmJ Tryz.prog .lss 3 false false (R s 31) (R s 30))) (O 22 zcf 1):=oR
theorem zl1:O 22 zcf 1 s=some [(.normal,s)]:=qe
def zl5:Code:=ZgE zl3
def zl7:Code:=ZhX zl3
theorem zl4:C 22 zl3 s=thenV (C 22 zl5 s) (C 22 zl7):=qS
def zAv:Code:=ZgE zl5
def zAw:Code:=ZhX zl5
theorem zl6:C 22 zl5 s=ZmY (R s 32) (C 22 zAv) (C 22 zAw) s:=qC
theorem zl9:C 22 zAv s=some [(.normal,s)]:=qK
theorem zma:C 22 zAw s=some [(.exit 0,s)]:=qE
def zxe:Code:=ZgE zl7
def zbe:Code:=ZhX zl7
theorem zl8:C 22 zl7 s=thenV (C 22 zxe s) (C 22 zbe):=qS
def zmg:Code:=ZgE zxe
theorem zmb:C 22 zxe s=ZmZ 1 (C 22 zmg s):=qB
def zbf:Code:=ZgE zmg
def zmm:Code:=ZhX zmg
theorem zmh:C 22 zmg s=thenV (C 22 zbf s) (C 22 zmm):=qS
theorem zml:C 22 zbf s=O 22 zbf 0 s:=qG 5
theorem zmi:O 22 zbf 0 s=Zbb s (some 33) (some {v:=R s 31}) (O 22 zbf 1):=oR
theorem zmj:O 22 zbf 1 s=Zbb s (some 11) (some {v:=R s 33}) (O 22 zbf 2):=oR
theorem zmk:O 22 zbf 2 s=some [(.normal,s)]:=qe
def JT:Code:=ZgE zmm
def zmB:Code:=ZhX zmm
theorem zmn:C 22 zmm s=thenV (C 22 JT s) (C 22 zmB):=qS
theorem zmA:C 22 JT s=O 22 JT 0 s:=qG 6
theorem zmo:O 22 JT 0 s=Zbb s (some 34) (some {v:=R s 10}) (O 22 JT 1):=oR
theorem zmp:O 22 JT 1 s=Zbb s (some 35) (some {v:=R s 10}) (O 22 JT 2):=oR
theorem zms:O 22 JT 2 s=Zbb s (some 36) (ZCn Tryz.prog (R s 35)) (O 22 JT 3):=oR
theorem zmt:O 22 JT 3 s=Zbb s (some 37) (val (ZmN (R s 36) 2)) (O 22 JT 4):=oR
theorem zmu:O 22 JT 4 s=Zbb s (some 38) (Zi3 Tryz.prog 27 s.h.get (R s 37)) (O 22 JT 5):=oR
theorem zmv:O 22 JT 5 s=Zbb s (some 39) (some {v:=R s 11}) (O 22 JT 6):=oR
theorem zmw:O 22 JT 6 s=Zbb s (some 40) (ZDl Tryz.prog false 27 1 [(0,(R s 39))] s.h.n) (O 22 JT 7):=oR
theorem zmx:O 22 JT 7 s=Zbb s (some 41) (ZmL Tryz.prog true s.h.get s.h.n .append [27,27] [R s 38,R s 40]) (O 22 JT 8):=oR
theorem zmy:O 22 JT 8 s=Zbb s (some 42) (ZCn Tryz.prog (R s 34)) (O 22 JT 9):=oR
theorem zmz:O 22 JT 9 s=Zbb s (some 43) (val (ZmN (R s 42) 2)) (O 22 JT 10):=oR
theorem zmq:O 22 JT 10 s=Zbb s none (ZnB Tryz.prog 27 s.h.get (R s 43) (R s 41)) (O 22 JT 11):=oR
theorem zmr:O 22 JT 11 s=some [(.normal,s)]:=qe
def J4:Code:=ZgE zmB
def zmO:Code:=ZhX zmB
theorem zmC:C 22 zmB s=thenV (C 22 J4 s) (C 22 zmO):=qS
theorem zmN:C 22 J4 s=O 22 J4 0 s:=qG 7
theorem zmD:O 22 J4 0 s=Zbb s (some 44) (some {v:=R s 10}) (O 22 J4 1):=oR
theorem zmE:O 22 J4 1 s=Zbb s (some 45) (ZCn Tryz.prog (R s 44)) (O 22 J4 2):=oR
theorem zmF:O 22 J4 2 s=Zbb s (some 46) (val (ZmN (R s 45) 3)) (O 22 J4 3):=oR
theorem zmG:O 22 J4 3 s=Zbb s (some 47) (Zi3 Tryz.prog 78 s.h.get (R s 46)) (O 22 J4 4):=oR
theorem zmH:O 22 J4 4 s=Zbb s (some 48) (some {v:=R s 11}) (O 22 J4 5):=oR
theorem zmI:O 22 J4 5 s=Zbb s (some 49) (some {v:=R s 11}) (O 22 J4 6):=oR
theorem zmJ:O 22 J4 6 s=Zbb s (some 50) (ZDl Tryz.prog false 27 1 [(0,(R s 49))] s.h.n) (O 22 J4 7):=oR
theorem zmK:O 22 J4 7 s=Zbb s (some 51) (val (indexAddr Tryz.prog 78 (R s 47) (R s 48))) (O 22 J4 8):=oR
theorem zmL:O 22 J4 8 s=Zbb s none (ZnB Tryz.prog 27 s.h.get (R s 51) (R s 50)) (O 22 J4 9):=oR
theorem zmM:O 22 J4 9 s=some [(.normal,s)]:=qe
def JZ:Code:=ZgE zmO
def JU:Code:=ZhX zmO
theorem zmP:C 22 zmO s=thenV (C 22 JZ s) (C 22 JU):=qS
theorem zm1:C 22 JZ s=O 22 JZ 0 s:=qG 8
theorem zmQ:O 22 JZ 0 s=Zbb s (some 52) (some {v:=R s 10}) (O 22 JZ 1):=oR
theorem zmR:O 22 JZ 1 s=Zbb s (some 53) (some {v:=R s 10}) (O 22 JZ 2):=oR
theorem zmT:O 22 JZ 2 s=Zbb s (some 54) (ZCn Tryz.prog (R s 53)) (O 22 JZ 3):=oR
theorem zmU:O 22 JZ 3 s=Zbb s (some 55) (val (ZmN (R s 54) 6)) (O 22 JZ 4):=oR
theorem zmV:O 22 JZ 4 s=Zbb s (some 56) (Zi3 Tryz.prog 27 s.h.get (R s 55)) (O 22 JZ 5):=oR
theorem zmW:O 22 JZ 5 s=Zbb s (some 57) (ZDl Tryz.prog false 27 1 [(0,(.int .i64 (-1)))] s.h.n) (O 22 JZ 6):=oR
theorem zmX:O 22 JZ 6 s=Zbb s (some 58) (ZmL Tryz.prog true s.h.get s.h.n .append [27,27] [R s 56,R s 57]) (O 22 JZ 7):=oR
theorem zmY:O 22 JZ 7 s=Zbb s (some 59) (ZCn Tryz.prog (R s 52)) (O 22 JZ 8):=oR
theorem zmZ:O 22 JZ 8 s=Zbb s (some 60) (val (ZmN (R s 59) 6)) (O 22 JZ 9):=oR
theorem zm0:O 22 JZ 9 s=Zbb s none (ZnB Tryz.prog 27 s.h.get (R s 60) (R s 58)) (O 22 JZ 10):=oR
theorem zmS:O 22 JZ 10 s=some [(.normal,s)]:=qe
theorem zne:C 22 JU s=O 22 JU 0 s:=qG 9
theorem zm2:O 22 JU 0 s=Zbb s (some 61) (some {v:=R s 10}) (O 22 JU 1):=oR
theorem zm3:O 22 JU 1 s=Zbb s (some 62) (some {v:=R s 10}) (O 22 JU 2):=oR
theorem zm6:O 22 JU 2 s=Zbb s (some 63) (ZCn Tryz.prog (R s 62)) (O 22 JU 3):=oR
theorem zm7:O 22 JU 3 s=Zbb s (some 64) (val (ZmN (R s 63) 7)) (O 22 JU 4):=oR
theorem zm8:O 22 JU 4 s=Zbb s (some 65) (Zi3 Tryz.prog 80 s.h.get (R s 64)) (O 22 JU 5):=oR
theorem zm9:O 22 JU 5 s=Zbb s (some 66) (val (build Tryz.prog 126 [])) (O 22 JU 6):=oR
theorem zna:O 22 JU 6 s=Zbb s (some 67) (ZDl Tryz.prog false 80 1 [(0,(R s 66))] s.h.n) (O 22 JU 7):=oR
theorem znb:O 22 JU 7 s=Zbb s (some 68) (ZmL Tryz.prog true s.h.get s.h.n .append [80,80] [R s 65,R s 67]) (O 22 JU 8):=oR
theorem znc:O 22 JU 8 s=Zbb s (some 69) (ZCn Tryz.prog (R s 61)) (O 22 JU 9):=oR
theorem znd:O 22 JU 9 s=Zbb s (some 70) (val (ZmN (R s 69) 7)) (O 22 JU 10):=oR
theorem zm4:O 22 JU 10 s=Zbb s none (ZnB Tryz.prog 80 s.h.get (R s 70) (R s 68)) (O 22 JU 11):=oR
theorem zm5:O 22 JU 11 s=some [(.normal,s)]:=qe
theorem zmf:C 22 zbe s=O 22 zbe 0 s:=qG 10
theorem zmc:O 22 zbe 0 s=Zbb s (some 71) (val (ZmJ Tryz.prog .add 3 false true (R s 31) (.int .i64 (1)))) (O 22 zbe 1):=oR
theorem zmd:O 22 zbe 1 s=Zbb s (some 31) (some {v:=R s 71}) (O 22 zbe 2):=oR
theorem zme:O 22 zbe 2 s=some [(.normal,s)]:=qe
def znf:Code:=ZgE zp2
def zno:Code:=ZhX zp2
theorem zdw:C 22 zp2 s=thenV (C 22 znf s) (C 22 zno):=qS
def zan:Code:=ZgE znf
def zxf:Code:=ZhX znf
theorem zdn:C 22 znf s=thenV (C 22 zan s) (C 22 zxf):=qS
theorem znt:C 22 zan s=O 22 zan 0 s:=qG 11
theorem znp:O 22 zan 0 s=Zbb s (some 72) (some {v:=R s 1}) (O 22 zan 1):=oR
theorem znq:O 22 zan 1 s=Zbb s (some 73) (ZmL Tryz.prog false s.h.get s.h.n .len [22] [R s 72]) (O 22 zan 2):=oR
theorem znr:O 22 zan 2 s=Zbb s (some 74) (some {v:=(.int .i64 (0))}) (O 22 zan 3):=oR
theorem zns:O 22 zan 3 s=some [(.normal,s)]:=qe
def zjL:Code:=ZgE zxf
theorem zdp:C 22 zxf s=ZmZ 2 (C 22 zjL s):=qB
def znu:Code:=ZgE zjL
theorem zAx:C 22 zjL s=thenV (C 22 znu s) (C 22 zjL):=qL
def zcg:Code:=ZgE znu
def znz:Code:=ZhX znu
theorem znv:C 22 znu s=thenV (C 22 zcg s) (C 22 znz):=qS
theorem zny:C 22 zcg s=O 22 zcg 0 s:=qG 12
theorem znw:O 22 zcg 0 s=Zbb s (some 75) (val (ZmJ Tryz.prog .lss 3 false false (R s 74) (R s 73))) (O 22 zcg 1):=oR
theorem znx:O 22 zcg 1 s=some [(.normal,s)]:=qe
def znB:Code:=ZgE znz
def znD:Code:=ZhX znz
theorem znA:C 22 znz s=thenV (C 22 znB s) (C 22 znD):=qS
def zAy:Code:=ZgE znB
def zAz:Code:=ZhX znB
theorem znC:C 22 znB s=ZmY (R s 75) (C 22 zAy) (C 22 zAz) s:=qC
theorem znE:C 22 zAy s=some [(.normal,s)]:=qK
theorem znF:C 22 zAz s=some [(.exit 2,s)]:=qE
def zxg:Code:=ZgE znD
def zbg:Code:=ZhX znD
theorem zch:C 22 znD s=thenV (C 22 zxg s) (C 22 zbg):=qS
def znK:Code:=ZgE zxg
theorem zjN:C 22 zxg s=ZmZ 3 (C 22 znK s):=qB
def Qy:Code:=ZgE znK
def znT:Code:=ZhX znK
theorem zci:C 22 znK s=thenV (C 22 Qy s) (C 22 znT):=qS
theorem znS:C 22 Qy s=O 22 Qy 0 s:=qG 13
theorem znL:O 22 Qy 0 s=Zbb s (some 76) (some {v:=R s 74}) (O 22 Qy 1):=oR
theorem znM:O 22 Qy 1 s=Zbb s (some 77) (val (indexAddr Tryz.prog 22 (R s 72) (R s 74))) (O 22 Qy 2):=oR
theorem znN:O 22 Qy 2 s=Zbb s (some 78) (Zi3 Tryz.prog 42 s.h.get (R s 77)) (O 22 Qy 3):=oR
theorem znO:O 22 Qy 3 s=Zbb s (some 13) (some {v:=.ptr s.h.n 0,nw:=[.row 0 [.int .i64 (0),.int .i64 (0)]]}) (O 22 Qy 4):=oR
theorem znP:O 22 Qy 4 s=Zbb s (some 12) (some {v:=R s 76}) (O 22 Qy 5):=oR
theorem znQ:O 22 Qy 5 s=Zbb s none (ZnB Tryz.prog 42 s.h.get (R s 13) (R s 78)) (O 22 Qy 6):=oR
theorem znR:O 22 Qy 6 s=some [(.normal,s)]:=qe
def QZ:Code:=ZgE znT
def zn0:Code:=ZhX znT
theorem zjO:C 22 znT s=thenV (C 22 QZ s) (C 22 zn0):=qS
theorem znZ:C 22 QZ s=O 22 QZ 0 s:=qG 14
theorem znU:O 22 QZ 0 s=Zbb s (some 79) (some {v:=R s 0}) (O 22 QZ 1):=oR
theorem znV:O 22 QZ 1 s=Zbb s (some 80) (some {v:=R s 12}) (O 22 QZ 2):=oR
theorem znW:O 22 QZ 2 s=Zbb s (some 81) (val (ZmJ Tryz.prog .add 3 false false (R s 79) (R s 80))) (O 22 QZ 3):=oR
theorem znX:O 22 QZ 3 s=Zbb s (some 14) (some {v:=R s 81}) (O 22 QZ 4):=oR
theorem znY:O 22 QZ 4 s=some [(.normal,s)]:=qe
def zj:Code:=ZgE zn0
def zoy:Code:=ZhX zn0
theorem zjP:C 22 zn0 s=thenV (C 22 zj s) (C 22 zoy):=qS
def zf:List Nat:=[0,1,3,7,0,16,48,112,0,256,1008,2032,0,4096,12288,28672,0,65536,196608,458752,0,1048576,4128768,8323072,16773120,33550336,0,67108864,268431360,536870911,1073741823]
theorem zox:C 22 zj s=D 22 zj zf 0 [] s:=qD 15
theorem zn1:D 22 zj zf 0 dn s=ZhW s (some 82) 0 zf dn (some {v:=R s 10}) (D 22 zj zf 1):=dR
theorem zn2:D 22 zj zf 1 dn s=ZhW s (some 83) 1 zf dn (ZCn Tryz.prog (R s 82)) (D 22 zj zf 2):=dR
theorem zod:D 22 zj zf 2 dn s=ZhW s (some 84) 2 zf dn (val (ZmN (R s 83) 4)) (D 22 zj zf 3):=dR
theorem zoo:D 22 zj zf 3 dn s=ZhW s (some 85) 3 zf dn (Zi3 Tryz.prog 78 s.h.get (R s 84)) (D 22 zj zf 4):=dR
theorem zor:D 22 zj zf 4 dn s=ZhW s (some 86) 4 zf dn (some {v:=R s 10}) (D 22 zj zf 5):=dR
theorem zos:D 22 zj zf 5 dn s=ZhW s (some 87) 5 zf dn (ZCn Tryz.prog (R s 86)) (D 22 zj zf 6):=dR
theorem zot:D 22 zj zf 6 dn s=ZhW s (some 88) 6 zf dn (val (ZmN (R s 87) 2)) (D 22 zj zf 7):=dR
theorem zou:D 22 zj zf 7 dn s=ZhW s (some 89) 7 zf dn (Zi3 Tryz.prog 27 s.h.get (R s 88)) (D 22 zj zf 8):=dR
theorem zov:D 22 zj zf 8 dn s=ZhW s (some 90) 8 zf dn (val (indexAddr Tryz.prog 42 (R s 13) (.int .i64 (0)))) (D 22 zj zf 9):=dR
theorem zow:D 22 zj zf 9 dn s=ZhW s (some 91) 9 zf dn (Zi3 Tryz.prog 3 s.h.get (R s 90)) (D 22 zj zf 10):=dR
theorem zn3:D 22 zj zf 10 dn s=ZhW s (some 92) 10 zf dn (val (indexAddr Tryz.prog 27 (R s 89) (R s 91))) (D 22 zj zf 11):=dR
theorem zn4:D 22 zj zf 11 dn s=ZhW s (some 93) 11 zf dn (Zi3 Tryz.prog 3 s.h.get (R s 92)) (D 22 zj zf 12):=dR
theorem zn5:D 22 zj zf 12 dn s=ZhW s (some 94) 12 zf dn (some {v:=R s 10}) (D 22 zj zf 13):=dR
theorem zn6:D 22 zj zf 13 dn s=ZhW s (some 95) 13 zf dn (ZCn Tryz.prog (R s 94)) (D 22 zj zf 14):=dR
theorem zn7:D 22 zj zf 14 dn s=ZhW s (some 96) 14 zf dn (val (ZmN (R s 95) 4)) (D 22 zj zf 15):=dR
theorem zn8:D 22 zj zf 15 dn s=ZhW s (some 97) 15 zf dn (Zi3 Tryz.prog 78 s.h.get (R s 96)) (D 22 zj zf 16):=dR
theorem zn9:D 22 zj zf 16 dn s=ZhW s (some 98) 16 zf dn (some {v:=R s 10}) (D 22 zj zf 17):=dR
theorem zoa:D 22 zj zf 17 dn s=ZhW s (some 99) 17 zf dn (ZCn Tryz.prog (R s 98)) (D 22 zj zf 18):=dR
theorem zob:D 22 zj zf 18 dn s=ZhW s (some 100) 18 zf dn (val (ZmN (R s 99) 2)) (D 22 zj zf 19):=dR
theorem zoc:D 22 zj zf 19 dn s=ZhW s (some 101) 19 zf dn (Zi3 Tryz.prog 27 s.h.get (R s 100)) (D 22 zj zf 20):=dR
theorem zoe:D 22 zj zf 20 dn s=ZhW s (some 102) 20 zf dn (val (indexAddr Tryz.prog 42 (R s 13) (.int .i64 (0)))) (D 22 zj zf 21):=dR
theorem zof:D 22 zj zf 21 dn s=ZhW s (some 103) 21 zf dn (Zi3 Tryz.prog 3 s.h.get (R s 102)) (D 22 zj zf 22):=dR
theorem zog:D 22 zj zf 22 dn s=ZhW s (some 104) 22 zf dn (val (indexAddr Tryz.prog 27 (R s 101) (R s 103))) (D 22 zj zf 23):=dR
theorem zoh:D 22 zj zf 23 dn s=ZhW s (some 105) 23 zf dn (Zi3 Tryz.prog 3 s.h.get (R s 104)) (D 22 zj zf 24):=dR
theorem zoi:D 22 zj zf 24 dn s=ZhW s (some 106) 24 zf dn (val (indexAddr Tryz.prog 78 (R s 97) (R s 105))) (D 22 zj zf 25):=dR
theorem zoj:D 22 zj zf 25 dn s=ZhW s (some 107) 25 zf dn (Zi3 Tryz.prog 27 s.h.get (R s 106)) (D 22 zj zf 26):=dR
theorem zok:D 22 zj zf 26 dn s=ZhW s (some 108) 26 zf dn (some {v:=R s 14}) (D 22 zj zf 27):=dR
theorem zol:D 22 zj zf 27 dn s=ZhW s (some 109) 27 zf dn (ZDl Tryz.prog false 27 1 [(0,(R s 108))] s.h.n) (D 22 zj zf 28):=dR
theorem zom:D 22 zj zf 28 dn s=ZhW s (some 110) 28 zf dn (ZmL Tryz.prog false s.h.get s.h.n .append [27,27] [R s 107,R s 109]) (D 22 zj zf 29):=dR
theorem zon:D 22 zj zf 29 dn s=ZhW s (some 111) 29 zf dn (val (indexAddr Tryz.prog 78 (R s 85) (R s 93))) (D 22 zj zf 30):=dR
theorem zop:D 22 zj zf 30 dn s=ZhW s none 30 zf dn (ZnB Tryz.prog 27 s.h.get (R s 111) (R s 110)) (D 22 zj zf 31):=dR
theorem zoq:D 22 zj zf 31 dn s=some [(.normal,s)]:=qd
def zk:Code:=ZgE zoy
def zao:Code:=ZhX zoy
theorem zjQ:C 22 zoy s=thenV (C 22 zk s) (C 22 zao):=qS
def zg:List Nat:=[0,1,3,7,0,16,48,112,0,256,1008,2032,0,4096,12288,28672,0,65536,196608,458752,0,1048576,4128768,8323072,16773120,33550336,0,67108864,268431360,536870911,1073741823]
theorem zpi:C 22 zk s=D 22 zk zg 0 [] s:=qD 16
theorem zoM:D 22 zk zg 0 dn s=ZhW s (some 112) 0 zg dn (some {v:=R s 10}) (D 22 zk zg 1):=dR
theorem zoN:D 22 zk zg 1 dn s=ZhW s (some 113) 1 zg dn (ZCn Tryz.prog (R s 112)) (D 22 zk zg 2):=dR
theorem zoY:D 22 zk zg 2 dn s=ZhW s (some 114) 2 zg dn (val (ZmN (R s 113) 4)) (D 22 zk zg 3):=dR
theorem zo9:D 22 zk zg 3 dn s=ZhW s (some 115) 3 zg dn (Zi3 Tryz.prog 78 s.h.get (R s 114)) (D 22 zk zg 4):=dR
theorem zpc:D 22 zk zg 4 dn s=ZhW s (some 116) 4 zg dn (some {v:=R s 10}) (D 22 zk zg 5):=dR
theorem zpd:D 22 zk zg 5 dn s=ZhW s (some 117) 5 zg dn (ZCn Tryz.prog (R s 116)) (D 22 zk zg 6):=dR
theorem zpe:D 22 zk zg 6 dn s=ZhW s (some 118) 6 zg dn (val (ZmN (R s 117) 2)) (D 22 zk zg 7):=dR
theorem zpf:D 22 zk zg 7 dn s=ZhW s (some 119) 7 zg dn (Zi3 Tryz.prog 27 s.h.get (R s 118)) (D 22 zk zg 8):=dR
theorem zpg:D 22 zk zg 8 dn s=ZhW s (some 120) 8 zg dn (val (indexAddr Tryz.prog 42 (R s 13) (.int .i64 (1)))) (D 22 zk zg 9):=dR
theorem zph:D 22 zk zg 9 dn s=ZhW s (some 121) 9 zg dn (Zi3 Tryz.prog 3 s.h.get (R s 120)) (D 22 zk zg 10):=dR
theorem zoO:D 22 zk zg 10 dn s=ZhW s (some 122) 10 zg dn (val (indexAddr Tryz.prog 27 (R s 119) (R s 121))) (D 22 zk zg 11):=dR
theorem zoP:D 22 zk zg 11 dn s=ZhW s (some 123) 11 zg dn (Zi3 Tryz.prog 3 s.h.get (R s 122)) (D 22 zk zg 12):=dR
theorem zoQ:D 22 zk zg 12 dn s=ZhW s (some 124) 12 zg dn (some {v:=R s 10}) (D 22 zk zg 13):=dR
theorem zoR:D 22 zk zg 13 dn s=ZhW s (some 125) 13 zg dn (ZCn Tryz.prog (R s 124)) (D 22 zk zg 14):=dR
theorem zoS:D 22 zk zg 14 dn s=ZhW s (some 126) 14 zg dn (val (ZmN (R s 125) 4)) (D 22 zk zg 15):=dR
theorem zoT:D 22 zk zg 15 dn s=ZhW s (some 127) 15 zg dn (Zi3 Tryz.prog 78 s.h.get (R s 126)) (D 22 zk zg 16):=dR
theorem zoU:D 22 zk zg 16 dn s=ZhW s (some 128) 16 zg dn (some {v:=R s 10}) (D 22 zk zg 17):=dR
theorem zoV:D 22 zk zg 17 dn s=ZhW s (some 129) 17 zg dn (ZCn Tryz.prog (R s 128)) (D 22 zk zg 18):=dR
theorem zoW:D 22 zk zg 18 dn s=ZhW s (some 130) 18 zg dn (val (ZmN (R s 129) 2)) (D 22 zk zg 19):=dR
theorem zoX:D 22 zk zg 19 dn s=ZhW s (some 131) 19 zg dn (Zi3 Tryz.prog 27 s.h.get (R s 130)) (D 22 zk zg 20):=dR
theorem zoZ:D 22 zk zg 20 dn s=ZhW s (some 132) 20 zg dn (val (indexAddr Tryz.prog 42 (R s 13) (.int .i64 (1)))) (D 22 zk zg 21):=dR
theorem zo0:D 22 zk zg 21 dn s=ZhW s (some 133) 21 zg dn (Zi3 Tryz.prog 3 s.h.get (R s 132)) (D 22 zk zg 22):=dR
theorem zo1:D 22 zk zg 22 dn s=ZhW s (some 134) 22 zg dn (val (indexAddr Tryz.prog 27 (R s 131) (R s 133))) (D 22 zk zg 23):=dR
theorem zo2:D 22 zk zg 23 dn s=ZhW s (some 135) 23 zg dn (Zi3 Tryz.prog 3 s.h.get (R s 134)) (D 22 zk zg 24):=dR
theorem zo3:D 22 zk zg 24 dn s=ZhW s (some 136) 24 zg dn (val (indexAddr Tryz.prog 78 (R s 127) (R s 135))) (D 22 zk zg 25):=dR
theorem zo4:D 22 zk zg 25 dn s=ZhW s (some 137) 25 zg dn (Zi3 Tryz.prog 27 s.h.get (R s 136)) (D 22 zk zg 26):=dR
theorem zo5:D 22 zk zg 26 dn s=ZhW s (some 138) 26 zg dn (some {v:=R s 14}) (D 22 zk zg 27):=dR
theorem zo6:D 22 zk zg 27 dn s=ZhW s (some 139) 27 zg dn (ZDl Tryz.prog false 27 1 [(0,(R s 138))] s.h.n) (D 22 zk zg 28):=dR
theorem zo7:D 22 zk zg 28 dn s=ZhW s (some 140) 28 zg dn (ZmL Tryz.prog false s.h.get s.h.n .append [27,27] [R s 137,R s 139]) (D 22 zk zg 29):=dR
theorem zo8:D 22 zk zg 29 dn s=ZhW s (some 141) 29 zg dn (val (indexAddr Tryz.prog 78 (R s 115) (R s 123))) (D 22 zk zg 30):=dR
theorem zpa:D 22 zk zg 30 dn s=ZhW s none 30 zg dn (ZnB Tryz.prog 27 s.h.get (R s 141) (R s 140)) (D 22 zk zg 31):=dR
theorem zpb:D 22 zk zg 31 dn s=some [(.normal,s)]:=qd
theorem zpn:C 22 zao s=O 22 zao 0 s:=qG 17
theorem zpj:O 22 zao 0 s=Zbb s (some 142) (some {v:=R s 10}) (O 22 zao 1):=oR
theorem zpk:O 22 zao 1 s=Zbb s (some 143) (some {v:=R s 14}) (O 22 zao 2):=oR
theorem zpl:O 22 zao 2 s=ZCo (some 144) s (ZCi Tryz.prog hs ks 48 [R s 142,R s 143] s.h) (O 22 zao 3):=cR
theorem zpm:O 22 zao 3 s=some [(.normal,s)]:=qe
theorem znJ:C 22 zbg s=O 22 zbg 0 s:=qG 18
theorem znG:O 22 zbg 0 s=Zbb s (some 145) (val (ZmJ Tryz.prog .add 3 false true (R s 74) (.int .i64 (1)))) (O 22 zbg 1):=oR
theorem znH:O 22 zbg 1 s=Zbb s (some 74) (some {v:=R s 145}) (O 22 zbg 2):=oR
theorem znI:O 22 zbg 2 s=some [(.normal,s)]:=qe
def zpo:Code:=ZgE zno
def zpp:Code:=ZhX zno
theorem zdo:C 22 zno s=thenV (C 22 zpo s) (C 22 zpp):=qS
def zap:Code:=ZgE zpo
def zxh:Code:=ZhX zpo
theorem zdq:C 22 zpo s=thenV (C 22 zap s) (C 22 zxh):=qS
theorem zpu:C 22 zap s=O 22 zap 0 s:=qG 19
theorem zpq:O 22 zap 0 s=Zbb s (some 146) (some {v:=R s 2}) (O 22 zap 1):=oR
theorem zpr:O 22 zap 1 s=Zbb s (some 147) (ZmL Tryz.prog false s.h.get s.h.n .len [22] [R s 146]) (O 22 zap 2):=oR
theorem zps:O 22 zap 2 s=Zbb s (some 148) (some {v:=(.int .i64 (0))}) (O 22 zap 3):=oR
theorem zpt:O 22 zap 3 s=some [(.normal,s)]:=qe
def zjR:Code:=ZgE zxh
theorem zds:C 22 zxh s=ZmZ 4 (C 22 zjR s):=qB
def zpv:Code:=ZgE zjR
theorem zAA:C 22 zjR s=thenV (C 22 zpv s) (C 22 zjR):=qL
def zcj:Code:=ZgE zpv
def zpA:Code:=ZhX zpv
theorem zpw:C 22 zpv s=thenV (C 22 zcj s) (C 22 zpA):=qS
theorem zpz:C 22 zcj s=O 22 zcj 0 s:=qG 20
theorem zpx:O 22 zcj 0 s=Zbb s (some 149) (val (ZmJ Tryz.prog .lss 3 false false (R s 148) (R s 147))) (O 22 zcj 1):=oR
theorem zpy:O 22 zcj 1 s=some [(.normal,s)]:=qe
def zpD:Code:=ZgE zpA
def zpF:Code:=ZhX zpA
theorem zpB:C 22 zpA s=thenV (C 22 zpD s) (C 22 zpF):=qS
def zAB:Code:=ZgE zpD
def zAC:Code:=ZhX zpD
theorem zpE:C 22 zpD s=ZmY (R s 149) (C 22 zAB) (C 22 zAC) s:=qC
theorem zpG:C 22 zAB s=some [(.normal,s)]:=qK
theorem zpH:C 22 zAC s=some [(.exit 4,s)]:=qE
def zxi:Code:=ZgE zpF
def zbh:Code:=ZhX zpF
theorem zck:C 22 zpF s=thenV (C 22 zxi s) (C 22 zbh):=qS
def zpM:Code:=ZgE zxi
theorem zjS:C 22 zxi s=ZmZ 5 (C 22 zpM s):=qB
def Qz:Code:=ZgE zpM
def zpV:Code:=ZhX zpM
theorem zdu:C 22 zpM s=thenV (C 22 Qz s) (C 22 zpV):=qS
theorem zpU:C 22 Qz s=O 22 Qz 0 s:=qG 21
theorem zpN:O 22 Qz 0 s=Zbb s (some 150) (some {v:=R s 148}) (O 22 Qz 1):=oR
theorem zpO:O 22 Qz 1 s=Zbb s (some 151) (val (indexAddr Tryz.prog 22 (R s 146) (R s 148))) (O 22 Qz 2):=oR
theorem zpP:O 22 Qz 2 s=Zbb s (some 152) (Zi3 Tryz.prog 42 s.h.get (R s 151)) (O 22 Qz 3):=oR
theorem zpQ:O 22 Qz 3 s=Zbb s (some 16) (some {v:=.ptr s.h.n 0,nw:=[.row 0 [.int .i64 (0),.int .i64 (0)]]}) (O 22 Qz 4):=oR
theorem zpR:O 22 Qz 4 s=Zbb s (some 15) (some {v:=R s 150}) (O 22 Qz 5):=oR
theorem zpS:O 22 Qz 5 s=Zbb s none (ZnB Tryz.prog 42 s.h.get (R s 16) (R s 152)) (O 22 Qz 6):=oR
theorem zpT:O 22 Qz 6 s=some [(.normal,s)]:=qe
def zaq:Code:=ZgE zpV
def zp3:Code:=ZhX zpV
theorem zpW:C 22 zpV s=thenV (C 22 zaq s) (C 22 zp3):=qS
theorem zp1:C 22 zaq s=O 22 zaq 0 s:=qG 22
theorem zpX:O 22 zaq 0 s=Zbb s (some 153) (some {v:=R s 3}) (O 22 zaq 1):=oR
theorem zpY:O 22 zaq 1 s=Zbb s (some 154) (some {v:=R s 15}) (O 22 zaq 2):=oR
theorem zpZ:O 22 zaq 2 s=ZCo (some 155) s (ZDX Tryz.prog hs ks (ZFa (R s 153) [R s 154]) s.h) (O 22 zaq 3):=xR
theorem zp0:O 22 zaq 3 s=some [(.normal,s)]:=qe
def Qg:Code:=ZgE zp3
def zAD:Code:=ZhX zp3
theorem zp4:C 22 zp3 s=ZmY (R s 155) (C 22 Qg) (C 22 zAD) s:=qC
theorem zqe:C 22 Qg s=O 22 Qg 0 s:=qG 23
theorem zp5:O 22 Qg 0 s=Zbb s (some 156) (some {v:=R s 10}) (O 22 Qg 1):=oR
theorem zp6:O 22 Qg 1 s=Zbb s (some 157) (val (indexAddr Tryz.prog 42 (R s 16) (.int .i64 (0)))) (O 22 Qg 2):=oR
theorem zp7:O 22 Qg 2 s=Zbb s (some 158) (Zi3 Tryz.prog 3 s.h.get (R s 157)) (O 22 Qg 3):=oR
theorem zp8:O 22 Qg 3 s=Zbb s (some 159) (val (indexAddr Tryz.prog 42 (R s 16) (.int .i64 (1)))) (O 22 Qg 4):=oR
theorem zp9:O 22 Qg 4 s=Zbb s (some 160) (Zi3 Tryz.prog 3 s.h.get (R s 159)) (O 22 Qg 5):=oR
theorem zqa:O 22 Qg 5 s=Zbb s (some 161) (some {v:=R s 15}) (O 22 Qg 6):=oR
theorem zqb:O 22 Qg 6 s=Zbb s (some 162) (val (build Tryz.prog 126 [(0,(R s 158)),(1,(R s 160)),(2,(R s 161))])) (O 22 Qg 7):=oR
theorem zqc:O 22 Qg 7 s=ZCo (some 163) s (ZCi Tryz.prog hs ks 49 [R s 156,R s 162] s.h) (O 22 Qg 8):=cR
theorem zqd:O 22 Qg 8 s=some [(.normal,s)]:=qe
theorem zqf:C 22 zAD s=some [(.normal,s)]:=qK
theorem zpL:C 22 zbh s=O 22 zbh 0 s:=qG 24
theorem zpI:O 22 zbh 0 s=Zbb s (some 164) (val (ZmJ Tryz.prog .add 3 false true (R s 148) (.int .i64 (1)))) (O 22 zbh 1):=oR
theorem zpJ:O 22 zbh 1 s=Zbb s (some 148) (some {v:=R s 164}) (O 22 zbh 2):=oR
theorem zpK:O 22 zbh 2 s=some [(.normal,s)]:=qe
def zbi:Code:=ZgE zpp
def zAE:Code:=ZhX zpp
theorem zdr:C 22 zpp s=thenV (C 22 zbi s) (C 22 zAE):=qS
theorem zqj:C 22 zbi s=O 22 zbi 0 s:=qG 25
theorem zqg:O 22 zbi 0 s=Zbb s (some 165) (some {v:=R s 10}) (O 22 zbi 1):=oR
theorem zqh:O 22 zbi 1 s=Zbb s (some 8) (some {v:=R s 165}) (O 22 zbi 2):=oR
theorem zqi:O 22 zbi 2 s=some [(.normal,s)]:=qe
theorem zqk:C 22 zAE s=some [(.ret,s)]:=qR
end
section
variable (dn:List (Nat×Foot)) (s:St)
def k25:Code:=Tryz.f25.body.getD .skip
theorem zSu (args:List V) (ha:args.length≤86) (h:H):(EV Tryz.prog hs ks).call 25 args h=Zm1 Tryz.prog hs ks Tryz.f25 (C 25 k25 (S 86 (ZCl args 0 fun _=> ZmM) [] h)):=Qu Tryz.func25 (by kernel_rfl) (by kernel_rfl) (by decide) rfl ha h
theorem zA5 (f:Nat→V) (h:H):Zm1 Tryz.prog hs ks Tryz.f25 (some [(.ret,S 86 f [] h)])=ZCp (ZCk Tryz.prog (S 86 f [] h) [.tmp 6]) h:=Zc (by kernel_rfl) (Or.inl rfl) _ _
def zcq:Code:=ZgE k25
def zqB:Code:=ZhX k25
theorem zxC:C 25 k25 s=thenV (C 25 zcq s) (C 25 zqB):=qS
theorem zxp:C 25 zcq s=O 25 zcq 0 s:=qG 0
theorem zHu:O 25 zcq 0 s=Zbb s (some 6) (some {v:=(.int .i64 (0))}) (O 25 zcq 1):=oR
theorem zHv:O 25 zcq 1 s=some [(.normal,s)]:=qe
def zqM:Code:=ZgE zqB
def zqS:Code:=ZhX zqB
theorem zjW:C 25 zqB s=thenV (C 25 zqM s) (C 25 zqS):=qS
def zbm:Code:=ZgE zqM
def zq5:Code:=ZhX zqM
theorem zjY:C 25 zqM s=thenV (C 25 zbm s) (C 25 zq5):=qS
theorem zIS:C 25 zbm s=O 25 zbm 0 s:=qG 1
theorem zIP:O 25 zbm 0 s=Zbb s (some 11) (some {v:=R s 0}) (O 25 zbm 1):=oR
theorem zIQ:O 25 zbm 1 s=Zbb s (some 12) (val (ZmJ Tryz.prog .lss 3 false true (R s 11) (.int .i64 (0)))) (O 25 zbm 2):=oR
theorem zIR:O 25 zbm 2 s=some [(.normal,s)]:=qe
def zre:Code:=ZgE zq5
def zAY:Code:=ZhX zq5
theorem zI3:C 25 zq5 s=ZmY (R s 12) (C 25 zre) (C 25 zAY) s:=qC
def zcw:Code:=ZgE zre
def zA4:Code:=ZhX zre
theorem zJk:C 25 zre s=thenV (C 25 zcw s) (C 25 zA4):=qS
theorem zKc:C 25 zcw s=O 25 zcw 0 s:=qG 2
theorem zKa:O 25 zcw 0 s=Zbb s (some 6) (some {v:=(.int .i64 (2))}) (O 25 zcw 1):=oR
theorem zKb:O 25 zcw 1 s=some [(.normal,s)]:=qe
theorem zKd:C 25 zA4 s=some [(.ret,s)]:=qR
theorem zJC:C 25 zAY s=some [(.normal,s)]:=qK
def zqC:Code:=ZgE zqS
def zqE:Code:=ZhX zqS
theorem zq0:C 25 zqS s=thenV (C 25 zqC s) (C 25 zqE):=qS
def zZ:Code:=ZgE zqC
def zqG:Code:=ZhX zqC
theorem zqD:C 25 zqC s=thenV (C 25 zZ s) (C 25 zqG):=qS
theorem zHL:C 25 zZ s=O 25 zZ 0 s:=qG 3
theorem zHw:O 25 zZ 0 s=Zbb s (some 13) (some {v:=R s 0}) (O 25 zZ 1):=oR
theorem zHx:O 25 zZ 1 s=Zbb s (some 14) (val (ZmJ Tryz.prog .gtr 3 false true (R s 13) (.int .i64 (2000)))) (O 25 zZ 2):=oR
theorem zHD:O 25 zZ 2 s=Zbb s (some 15) (some {v:=R s 14}) (O 25 zZ 3):=oR
theorem zHE:O 25 zZ 3 s=if Zmx (R s 15) false=true then Zbb s (some 16) (some {v:=R s 0}) (O 25 zZ 4) else O 25 zZ 4 (ZmH s (some 16)):=oI
theorem zHF:O 25 zZ 4 s=if Zmx (R s 15) false=true then Zbb s (some 17) (some {v:=R s 1}) (O 25 zZ 5) else O 25 zZ 5 (ZmH s (some 17)):=oI
theorem zHG:O 25 zZ 5 s=if Zmx (R s 15) false=true then Zbb s (some 18) (ZmL Tryz.prog false s.h.get s.h.n .len [22] [R s 17]) (O 25 zZ 6) else O 25 zZ 6 (ZmH s (some 18)):=oI
theorem zHH:O 25 zZ 6 s=if Zmx (R s 15) false=true then Zbb s (some 19) (val (ZmJ Tryz.prog .add 3 false false (R s 16) (R s 18))) (O 25 zZ 7) else O 25 zZ 7 (ZmH s (some 19)):=oI
theorem zHI:O 25 zZ 7 s=if Zmx (R s 15) false=true then Zbb s (some 20) (val (ZmJ Tryz.prog .gtr 3 false true (R s 19) (.int .i64 (2000)))) (O 25 zZ 8) else O 25 zZ 8 (ZmH s (some 20)):=oI
theorem zHJ:O 25 zZ 8 s=Zbb s (some 21) (ZCE (R s 15) (.bool true) (R s 20)) (O 25 zZ 9):=oR
theorem zHK:O 25 zZ 9 s=Zbb s (some 22) (some {v:=R s 21}) (O 25 zZ 10):=oR
theorem zHy:O 25 zZ 10 s=if Zmx (R s 22) false=true then Zbb s (some 23) (some {v:=R s 2}) (O 25 zZ 11) else O 25 zZ 11 (ZmH s (some 23)):=oI
theorem zHz:O 25 zZ 11 s=if Zmx (R s 22) false=true then Zbb s (some 24) (ZmL Tryz.prog false s.h.get s.h.n .len [22] [R s 23]) (O 25 zZ 12) else O 25 zZ 12 (ZmH s (some 24)):=oI
theorem zHA:O 25 zZ 12 s=if Zmx (R s 22) false=true then Zbb s (some 25) (val (ZmJ Tryz.prog .gtr 3 false true (R s 24) (.int .i64 (2000)))) (O 25 zZ 13) else O 25 zZ 13 (ZmH s (some 25)):=oI
theorem zHB:O 25 zZ 13 s=Zbb s (some 26) (ZCE (R s 22) (.bool true) (R s 25)) (O 25 zZ 14):=oR
theorem zHC:O 25 zZ 14 s=some [(.normal,s)]:=qe
def zqH:Code:=ZgE zqG
def zAN:Code:=ZhX zqG
theorem zHM:C 25 zqG s=ZmY (R s 26) (C 25 zqH) (C 25 zAN) s:=qC
theorem zHN:C 25 zAN s=some [(.normal,s)]:=qK
def zqI:Code:=ZgE zqE
def zqK:Code:=ZhX zqE
theorem zqF:C 25 zqE s=thenV (C 25 zqI s) (C 25 zqK):=qS
def zcr:Code:=ZgE zqI
def zxq:Code:=ZhX zqI
theorem zqJ:C 25 zqI s=thenV (C 25 zcr s) (C 25 zxq):=qS
theorem zHQ:C 25 zcr s=O 25 zcr 0 s:=qG 5
theorem zHO:O 25 zcr 0 s=Zbb s (some 7) (some {v:=(.int .i64 (0))}) (O 25 zcr 1):=oR
theorem zHP:O 25 zcr 1 s=some [(.normal,s)]:=qe
def zjX:Code:=ZgE zxq
theorem zqN:C 25 zxq s=ZmZ 0 (C 25 zjX s):=qB
def zqO:Code:=ZgE zjX
theorem zHR:C 25 zjX s=thenV (C 25 zqO s) (C 25 zjX):=qL
def zqP:Code:=ZgE zqO
def zqQ:Code:=ZhX zqO
theorem zHS:C 25 zqO s=thenV (C 25 zqP s) (C 25 zqQ):=qS
def Q2:Code:=ZgE zqP
def zqR:Code:=ZhX zqP
theorem zHT:C 25 zqP s=thenV (C 25 Q2 s) (C 25 zqR):=qS
theorem zHZ:C 25 Q2 s=O 25 Q2 0 s:=qG 6
theorem zHU:O 25 Q2 0 s=Zbb s (some 27) (some {v:=R s 7}) (O 25 Q2 1):=oR
theorem zHV:O 25 Q2 1 s=Zbb s (some 28) (some {v:=R s 1}) (O 25 Q2 2):=oR
theorem zHW:O 25 Q2 2 s=Zbb s (some 29) (ZmL Tryz.prog false s.h.get s.h.n .len [22] [R s 28]) (O 25 Q2 3):=oR
theorem zHX:O 25 Q2 3 s=Zbb s (some 30) (val (ZmJ Tryz.prog .lss 3 false false (R s 27) (R s 29))) (O 25 Q2 4):=oR
theorem zHY:O 25 Q2 4 s=some [(.normal,s)]:=qe
def zAO:Code:=ZgE zqR
def zAP:Code:=ZhX zqR
theorem zH0:C 25 zqR s=ZmY (R s 30) (C 25 zAO) (C 25 zAP) s:=qC
theorem zH1:C 25 zAO s=some [(.normal,s)]:=qK
theorem zH2:C 25 zAP s=some [(.exit 0,s)]:=qE
def zxs:Code:=ZgE zqQ
def zat:Code:=ZhX zqQ
theorem zxr:C 25 zqQ s=thenV (C 25 zxs s) (C 25 zat):=qS
def zqV:Code:=ZgE zxs
theorem zqT:C 25 zxs s=ZmZ 1 (C 25 zqV s):=qB
def zcs:Code:=ZgE zqV
def zxu:Code:=ZhX zqV
theorem zxt:C 25 zqV s=thenV (C 25 zcs s) (C 25 zxu):=qS
theorem zH9:C 25 zcs s=O 25 zcs 0 s:=qG 8
theorem zH7:O 25 zcs 0 s=Zbb s (some 8) (some {v:=(.int .i64 (0))}) (O 25 zcs 1):=oR
theorem zH8:O 25 zcs 1 s=some [(.normal,s)]:=qe
def zjZ:Code:=ZgE zxu
theorem zqW:C 25 zxu s=ZmZ 2 (C 25 zjZ s):=qB
def zqX:Code:=ZgE zjZ
theorem zAQ:C 25 zjZ s=thenV (C 25 zqX s) (C 25 zjZ):=qL
def zqY:Code:=ZgE zqX
def zqZ:Code:=ZhX zqX
theorem zIa:C 25 zqX s=thenV (C 25 zqY s) (C 25 zqZ):=qS
def zbl:Code:=ZgE zqY
def zq1:Code:=ZhX zqY
theorem zIb:C 25 zqY s=thenV (C 25 zbl s) (C 25 zq1):=qS
theorem zIg:C 25 zbl s=O 25 zbl 0 s:=qG 9
theorem zId:O 25 zbl 0 s=Zbb s (some 33) (some {v:=R s 8}) (O 25 zbl 1):=oR
theorem zIe:O 25 zbl 1 s=Zbb s (some 34) (val (ZmJ Tryz.prog .lss 3 false true (R s 33) (.int .i64 (2)))) (O 25 zbl 2):=oR
theorem zIf:O 25 zbl 2 s=some [(.normal,s)]:=qe
def zAR:Code:=ZgE zq1
def zAS:Code:=ZhX zq1
theorem zIh:C 25 zq1 s=ZmY (R s 34) (C 25 zAR) (C 25 zAS) s:=qC
theorem zIi:C 25 zAR s=some [(.normal,s)]:=qK
theorem zIj:C 25 zAS s=some [(.exit 2,s)]:=qE
def zxv:Code:=ZgE zqZ
def zau:Code:=ZhX zqZ
theorem zIc:C 25 zqZ s=thenV (C 25 zxv s) (C 25 zau):=qS
def zq2:Code:=ZgE zxv
theorem zIk:C 25 zxv s=ZmZ 3 (C 25 zq2 s):=qB
def zF:Code:=ZgE zq2
def zq3:Code:=ZhX zq2
theorem zIq:C 25 zq2 s=thenV (C 25 zF s) (C 25 zq3):=qS
theorem zIL:C 25 zF s=O 25 zF 0 s:=qG 11
theorem zIr:O 25 zF 0 s=Zbb s (some 37) (some {v:=R s 1}) (O 25 zF 1):=oR
theorem zIs:O 25 zF 1 s=Zbb s (some 38) (some {v:=R s 7}) (O 25 zF 2):=oR
theorem zID:O 25 zF 2 s=Zbb s (some 39) (some {v:=R s 8}) (O 25 zF 3):=oR
theorem zIE:O 25 zF 3 s=Zbb s (some 40) (val (indexAddr Tryz.prog 22 (R s 37) (R s 38))) (O 25 zF 4):=oR
theorem zIF:O 25 zF 4 s=Zbb s (some 41) (val (indexAddr Tryz.prog 42 (R s 40) (R s 39))) (O 25 zF 5):=oR
theorem zIG:O 25 zF 5 s=Zbb s (some 42) (Zi3 Tryz.prog 3 s.h.get (R s 41)) (O 25 zF 6):=oR
theorem zIH:O 25 zF 6 s=Zbb s (some 43) (val (ZmJ Tryz.prog .lss 3 false true (R s 42) (.int .i64 (0)))) (O 25 zF 7):=oR
theorem zII:O 25 zF 7 s=Zbb s (some 44) (some {v:=R s 43}) (O 25 zF 8):=oR
theorem zIJ:O 25 zF 8 s=if Zmx (R s 44) false=true then Zbb s (some 45) (some {v:=R s 1}) (O 25 zF 9) else O 25 zF 9 (ZmH s (some 45)):=oI
theorem zIK:O 25 zF 9 s=if Zmx (R s 44) false=true then Zbb s (some 46) (some {v:=R s 7}) (O 25 zF 10) else O 25 zF 10 (ZmH s (some 46)):=oI
theorem zIt:O 25 zF 10 s=if Zmx (R s 44) false=true then Zbb s (some 47) (some {v:=R s 8}) (O 25 zF 11) else O 25 zF 11 (ZmH s (some 47)):=oI
theorem zIu:O 25 zF 11 s=if Zmx (R s 44) false=true then Zbb s (some 48) (val (indexAddr Tryz.prog 22 (R s 45) (R s 46))) (O 25 zF 12) else O 25 zF 12 (ZmH s (some 48)):=oI
theorem zIv:O 25 zF 12 s=if Zmx (R s 44) false=true then Zbb s (some 49) (val (indexAddr Tryz.prog 42 (R s 48) (R s 47))) (O 25 zF 13) else O 25 zF 13 (ZmH s (some 49)):=oI
theorem zIw:O 25 zF 13 s=if Zmx (R s 44) false=true then Zbb s (some 50) (Zi3 Tryz.prog 3 s.h.get (R s 49)) (O 25 zF 14) else O 25 zF 14 (ZmH s (some 50)):=oI
theorem zIx:O 25 zF 14 s=if Zmx (R s 44) false=true then Zbb s (some 51) (some {v:=R s 0}) (O 25 zF 15) else O 25 zF 15 (ZmH s (some 51)):=oI
theorem zIy:O 25 zF 15 s=if Zmx (R s 44) false=true then Zbb s (some 52) (some {v:=R s 7}) (O 25 zF 16) else O 25 zF 16 (ZmH s (some 52)):=oI
theorem zIz:O 25 zF 16 s=if Zmx (R s 44) false=true then Zbb s (some 53) (val (ZmJ Tryz.prog .add 3 false false (R s 51) (R s 52))) (O 25 zF 17) else O 25 zF 17 (ZmH s (some 53)):=oI
theorem zIA:O 25 zF 17 s=if Zmx (R s 44) false=true then Zbb s (some 54) (val (ZmJ Tryz.prog .geq 3 false false (R s 50) (R s 53))) (O 25 zF 18) else O 25 zF 18 (ZmH s (some 54)):=oI
theorem zIB:O 25 zF 18 s=Zbb s (some 55) (ZCE (R s 44) (.bool true) (R s 54)) (O 25 zF 19):=oR
theorem zIC:O 25 zF 19 s=some [(.normal,s)]:=qe
def zq4:Code:=ZgE zq3
def zAT:Code:=ZhX zq3
theorem zIM:C 25 zq3 s=ZmY (R s 55) (C 25 zq4) (C 25 zAT) s:=qC
def zct:Code:=ZgE zq4
def zAU:Code:=ZhX zq4
theorem zIN:C 25 zq4 s=thenV (C 25 zct s) (C 25 zAU):=qS
theorem zIV:C 25 zct s=O 25 zct 0 s:=qG 12
theorem zIT:O 25 zct 0 s=Zbb s (some 6) (some {v:=(.int .i64 (2))}) (O 25 zct 1):=oR
theorem zIU:O 25 zct 1 s=some [(.normal,s)]:=qe
theorem zIW:C 25 zAU s=some [(.ret,s)]:=qR
theorem zIO:C 25 zAT s=some [(.normal,s)]:=qK
theorem zIp:C 25 zau s=O 25 zau 0 s:=qG 10
theorem zIl:O 25 zau 0 s=Zbb s (some 35) (some {v:=R s 8}) (O 25 zau 1):=oR
theorem zIm:O 25 zau 1 s=Zbb s (some 36) (val (ZmJ Tryz.prog .add 3 false true (R s 35) (.int .i64 (1)))) (O 25 zau 2):=oR
theorem zIn:O 25 zau 2 s=Zbb s (some 8) (some {v:=R s 36}) (O 25 zau 3):=oR
theorem zIo:O 25 zau 3 s=some [(.normal,s)]:=qe
theorem zqU:C 25 zat s=O 25 zat 0 s:=qG 7
theorem zH3:O 25 zat 0 s=Zbb s (some 31) (some {v:=R s 7}) (O 25 zat 1):=oR
theorem zH4:O 25 zat 1 s=Zbb s (some 32) (val (ZmJ Tryz.prog .add 3 false true (R s 31) (.int .i64 (1)))) (O 25 zat 2):=oR
theorem zH5:O 25 zat 2 s=Zbb s (some 7) (some {v:=R s 32}) (O 25 zat 3):=oR
theorem zH6:O 25 zat 3 s=some [(.normal,s)]:=qe
def zq6:Code:=ZgE zqK
def zq8:Code:=ZhX zqK
theorem zqL:C 25 zqK s=thenV (C 25 zq6 s) (C 25 zq8):=qS
def zcu:Code:=ZgE zq6
def zxw:Code:=ZhX zq6
theorem zq7:C 25 zq6 s=thenV (C 25 zcu s) (C 25 zxw):=qS
theorem zIZ:C 25 zcu s=O 25 zcu 0 s:=qG 13
theorem zIX:O 25 zcu 0 s=Zbb s (some 9) (some {v:=(.int .i64 (0))}) (O 25 zcu 1):=oR
theorem zIY:O 25 zcu 1 s=some [(.normal,s)]:=qe
def zj0:Code:=ZgE zxw
theorem zra:C 25 zxw s=ZmZ 4 (C 25 zj0 s):=qB
def zrb:Code:=ZgE zj0
theorem zI0:C 25 zj0 s=thenV (C 25 zrb s) (C 25 zj0):=qL
def zrc:Code:=ZgE zrb
def zrd:Code:=ZhX zrb
theorem zI1:C 25 zrb s=thenV (C 25 zrc s) (C 25 zrd):=qS
def Q3:Code:=ZgE zrc
def zrf:Code:=ZhX zrc
theorem zI2:C 25 zrc s=thenV (C 25 Q3 s) (C 25 zrf):=qS
theorem zI9:C 25 Q3 s=O 25 Q3 0 s:=qG 14
theorem zI4:O 25 Q3 0 s=Zbb s (some 56) (some {v:=R s 9}) (O 25 Q3 1):=oR
theorem zI5:O 25 Q3 1 s=Zbb s (some 57) (some {v:=R s 2}) (O 25 Q3 2):=oR
theorem zI6:O 25 Q3 2 s=Zbb s (some 58) (ZmL Tryz.prog false s.h.get s.h.n .len [22] [R s 57]) (O 25 Q3 3):=oR
theorem zI7:O 25 Q3 3 s=Zbb s (some 59) (val (ZmJ Tryz.prog .lss 3 false false (R s 56) (R s 58))) (O 25 Q3 4):=oR
theorem zI8:O 25 Q3 4 s=some [(.normal,s)]:=qe
def zAV:Code:=ZgE zrf
def zAW:Code:=ZhX zrf
theorem zJa:C 25 zrf s=ZmY (R s 59) (C 25 zAV) (C 25 zAW) s:=qC
theorem zJb:C 25 zAV s=some [(.normal,s)]:=qK
theorem zJc:C 25 zAW s=some [(.exit 4,s)]:=qE
def zxy:Code:=ZgE zrd
def zav:Code:=ZhX zrd
theorem zxx:C 25 zrd s=thenV (C 25 zxy s) (C 25 zav):=qS
def zri:Code:=ZgE zxy
theorem zrg:C 25 zxy s=ZmZ 5 (C 25 zri s):=qB
def zcv:Code:=ZgE zri
def zxA:Code:=ZhX zri
theorem zxz:C 25 zri s=thenV (C 25 zcv s) (C 25 zxA):=qS
theorem zJj:C 25 zcv s=O 25 zcv 0 s:=qG 16
theorem zJh:O 25 zcv 0 s=Zbb s (some 10) (some {v:=(.int .i64 (0))}) (O 25 zcv 1):=oR
theorem zJi:O 25 zcv 1 s=some [(.normal,s)]:=qe
def zj1:Code:=ZgE zxA
theorem zrj:C 25 zxA s=ZmZ 6 (C 25 zj1 s):=qB
def zrk:Code:=ZgE zj1
theorem zAX:C 25 zj1 s=thenV (C 25 zrk s) (C 25 zj1):=qL
def zrl:Code:=ZgE zrk
def zrm:Code:=ZhX zrk
theorem zJl:C 25 zrk s=thenV (C 25 zrl s) (C 25 zrm):=qS
def zbn:Code:=ZgE zrl
def zrn:Code:=ZhX zrl
theorem zJm:C 25 zrl s=thenV (C 25 zbn s) (C 25 zrn):=qS
theorem zJr:C 25 zbn s=O 25 zbn 0 s:=qG 17
theorem zJo:O 25 zbn 0 s=Zbb s (some 62) (some {v:=R s 10}) (O 25 zbn 1):=oR
theorem zJp:O 25 zbn 1 s=Zbb s (some 63) (val (ZmJ Tryz.prog .lss 3 false true (R s 62) (.int .i64 (2)))) (O 25 zbn 2):=oR
theorem zJq:O 25 zbn 2 s=some [(.normal,s)]:=qe
def zAZ:Code:=ZgE zrn
def zA0:Code:=ZhX zrn
theorem zJs:C 25 zrn s=ZmY (R s 63) (C 25 zAZ) (C 25 zA0) s:=qC
theorem zJt:C 25 zAZ s=some [(.normal,s)]:=qK
theorem zJu:C 25 zA0 s=some [(.exit 6,s)]:=qE
def zxB:Code:=ZgE zrm
def zaw:Code:=ZhX zrm
theorem zJn:C 25 zrm s=thenV (C 25 zxB s) (C 25 zaw):=qS
def zro:Code:=ZgE zxB
theorem zJv:C 25 zxB s=ZmZ 7 (C 25 zro s):=qB
def zC:Code:=ZgE zro
def zrp:Code:=ZhX zro
theorem zJB:C 25 zro s=thenV (C 25 zC s) (C 25 zrp):=qS
theorem zJY:C 25 zC s=O 25 zC 0 s:=qG 19
theorem zJD:O 25 zC 0 s=Zbb s (some 66) (some {v:=R s 2}) (O 25 zC 1):=oR
theorem zJE:O 25 zC 1 s=Zbb s (some 67) (some {v:=R s 9}) (O 25 zC 2):=oR
theorem zJP:O 25 zC 2 s=Zbb s (some 68) (some {v:=R s 10}) (O 25 zC 3):=oR
theorem zJR:O 25 zC 3 s=Zbb s (some 69) (val (indexAddr Tryz.prog 22 (R s 66) (R s 67))) (O 25 zC 4):=oR
theorem zJS:O 25 zC 4 s=Zbb s (some 70) (val (indexAddr Tryz.prog 42 (R s 69) (R s 68))) (O 25 zC 5):=oR
theorem zJT:O 25 zC 5 s=Zbb s (some 71) (Zi3 Tryz.prog 3 s.h.get (R s 70)) (O 25 zC 6):=oR
theorem zJU:O 25 zC 6 s=Zbb s (some 72) (val (ZmJ Tryz.prog .lss 3 false true (R s 71) (.int .i64 (0)))) (O 25 zC 7):=oR
theorem zJV:O 25 zC 7 s=Zbb s (some 73) (some {v:=R s 72}) (O 25 zC 8):=oR
theorem zJW:O 25 zC 8 s=if Zmx (R s 73) false=true then Zbb s (some 74) (some {v:=R s 2}) (O 25 zC 9) else O 25 zC 9 (ZmH s (some 74)):=oI
theorem zJX:O 25 zC 9 s=if Zmx (R s 73) false=true then Zbb s (some 75) (some {v:=R s 9}) (O 25 zC 10) else O 25 zC 10 (ZmH s (some 75)):=oI
theorem zJF:O 25 zC 10 s=if Zmx (R s 73) false=true then Zbb s (some 76) (some {v:=R s 10}) (O 25 zC 11) else O 25 zC 11 (ZmH s (some 76)):=oI
theorem zJG:O 25 zC 11 s=if Zmx (R s 73) false=true then Zbb s (some 77) (val (indexAddr Tryz.prog 22 (R s 74) (R s 75))) (O 25 zC 12) else O 25 zC 12 (ZmH s (some 77)):=oI
theorem zJH:O 25 zC 12 s=if Zmx (R s 73) false=true then Zbb s (some 78) (val (indexAddr Tryz.prog 42 (R s 77) (R s 76))) (O 25 zC 13) else O 25 zC 13 (ZmH s (some 78)):=oI
theorem zJI:O 25 zC 13 s=if Zmx (R s 73) false=true then Zbb s (some 79) (Zi3 Tryz.prog 3 s.h.get (R s 78)) (O 25 zC 14) else O 25 zC 14 (ZmH s (some 79)):=oI
theorem zJJ:O 25 zC 14 s=if Zmx (R s 73) false=true then Zbb s (some 80) (some {v:=R s 0}) (O 25 zC 15) else O 25 zC 15 (ZmH s (some 80)):=oI
theorem zJK:O 25 zC 15 s=if Zmx (R s 73) false=true then Zbb s (some 81) (some {v:=R s 1}) (O 25 zC 16) else O 25 zC 16 (ZmH s (some 81)):=oI
theorem zJL:O 25 zC 16 s=if Zmx (R s 73) false=true then Zbb s (some 82) (ZmL Tryz.prog false s.h.get s.h.n .len [22] [R s 81]) (O 25 zC 17) else O 25 zC 17 (ZmH s (some 82)):=oI
theorem zJM:O 25 zC 17 s=if Zmx (R s 73) false=true then Zbb s (some 83) (val (ZmJ Tryz.prog .add 3 false false (R s 80) (R s 82))) (O 25 zC 18) else O 25 zC 18 (ZmH s (some 83)):=oI
theorem zJN:O 25 zC 18 s=if Zmx (R s 73) false=true then Zbb s (some 84) (val (ZmJ Tryz.prog .geq 3 false false (R s 79) (R s 83))) (O 25 zC 19) else O 25 zC 19 (ZmH s (some 84)):=oI
theorem zJO:O 25 zC 19 s=Zbb s (some 85) (ZCE (R s 73) (.bool true) (R s 84)) (O 25 zC 20):=oR
theorem zJQ:O 25 zC 20 s=some [(.normal,s)]:=qe
def zrq:Code:=ZgE zrp
def zA1:Code:=ZhX zrp
theorem zJZ:C 25 zrp s=ZmY (R s 85) (C 25 zrq) (C 25 zA1) s:=qC
def zcx:Code:=ZgE zrq
def zA2:Code:=ZhX zrq
theorem zJ0:C 25 zrq s=thenV (C 25 zcx s) (C 25 zA2):=qS
theorem zJ4:C 25 zcx s=O 25 zcx 0 s:=qG 20
theorem zJ2:O 25 zcx 0 s=Zbb s (some 6) (some {v:=(.int .i64 (2))}) (O 25 zcx 1):=oR
theorem zJ3:O 25 zcx 1 s=some [(.normal,s)]:=qe
theorem zJ5:C 25 zA2 s=some [(.ret,s)]:=qR
theorem zJ1:C 25 zA1 s=some [(.normal,s)]:=qK
theorem zJA:C 25 zaw s=O 25 zaw 0 s:=qG 18
theorem zJw:O 25 zaw 0 s=Zbb s (some 64) (some {v:=R s 10}) (O 25 zaw 1):=oR
theorem zJx:O 25 zaw 1 s=Zbb s (some 65) (val (ZmJ Tryz.prog .add 3 false true (R s 64) (.int .i64 (1)))) (O 25 zaw 2):=oR
theorem zJy:O 25 zaw 2 s=Zbb s (some 10) (some {v:=R s 65}) (O 25 zaw 3):=oR
theorem zJz:O 25 zaw 3 s=some [(.normal,s)]:=qe
theorem zrh:C 25 zav s=O 25 zav 0 s:=qG 15
theorem zJd:O 25 zav 0 s=Zbb s (some 60) (some {v:=R s 9}) (O 25 zav 1):=oR
theorem zJe:O 25 zav 1 s=Zbb s (some 61) (val (ZmJ Tryz.prog .add 3 false true (R s 60) (.int .i64 (1)))) (O 25 zav 2):=oR
theorem zJf:O 25 zav 2 s=Zbb s (some 9) (some {v:=R s 61}) (O 25 zav 3):=oR
theorem zJg:O 25 zav 3 s=some [(.normal,s)]:=qe
def zcy:Code:=ZgE zq8
def zA3:Code:=ZhX zq8
theorem zq9:C 25 zq8 s=thenV (C 25 zcy s) (C 25 zA3):=qS
theorem zJ8:C 25 zcy s=O 25 zcy 0 s:=qG 21
theorem zJ6:O 25 zcy 0 s=Zbb s (some 6) (some {v:=(.int .i64 (0))}) (O 25 zcy 1):=oR
theorem zJ7:O 25 zcy 1 s=some [(.normal,s)]:=qe
theorem zJ9:C 25 zA3 s=some [(.ret,s)]:=qR
def k27:Code:=Tryz.f27.body.getD .skip
theorem zSv (args:List V) (ha:args.length≤16) (h:H):(EV Tryz.prog hs ks).call 27 args h=Zm1 Tryz.prog hs ks Tryz.f27 (C 27 k27 (S 16 (ZCl args 0 fun _=> ZmM) [] h)):=Qu Tryz.func27 (by kernel_rfl) (by kernel_rfl) (by decide) rfl ha h
theorem zxT (f:Nat→V) (h:H):Zm1 Tryz.prog hs ks Tryz.f27 (some [(.ret,S 16 f [] h)])=ZCp (ZCk Tryz.prog (S 16 f [] h) [.tmp 2]) h:=Zc (by kernel_rfl) (Or.inl rfl) _ _
def zcK:Code:=ZgE k27
def zuU:Code:=ZhX k27
theorem zxS:C 27 k27 s=thenV (C 27 zcK s) (C 27 zuU):=qS
theorem zxP:C 27 zcK s=O 27 zcK 0 s:=qG 0
theorem zBk:O 27 zcK 0 s=Zbb s (some 2) (some {v:=(.nils)}) (O 27 zcK 1):=oR
theorem zBl:O 27 zcK 1 s=some [(.normal,s)]:=qe
def zaH:Code:=ZgE zuU
def zuY:Code:=ZhX zuU
theorem zdJ:C 27 zuU s=thenV (C 27 zaH s) (C 27 zuY):=qS
theorem zdK:C 27 zaH s=O 27 zaH 0 s:=qG 1
theorem zBP:O 27 zaH 0 s=Zbb s (some 5) (some {v:=R s 0}) (O 27 zaH 1):=oR
theorem zBQ:O 27 zaH 1 s=Zbb s (some 6) (mkS Tryz.prog 4 s.h.n (R s 5) (R s 5)) (O 27 zaH 2):=oR
theorem zBR:O 27 zaH 2 s=Zbb s (some 3) (some {v:=R s 6}) (O 27 zaH 3):=oR
theorem zBS:O 27 zaH 3 s=some [(.normal,s)]:=qe
def zuZ:Code:=ZgE zuY
def zu0:Code:=ZhX zuY
theorem zdL:C 27 zuY s=thenV (C 27 zuZ s) (C 27 zu0):=qS
def zcL:Code:=ZgE zuZ
def zxR:Code:=ZhX zuZ
theorem zdM:C 27 zuZ s=thenV (C 27 zcL s) (C 27 zxR):=qS
theorem zBV:C 27 zcL s=O 27 zcL 0 s:=qG 2
theorem zBT:O 27 zcL 0 s=Zbb s (some 4) (some {v:=(.int .i64 (0))}) (O 27 zcL 1):=oR
theorem zBU:O 27 zcL 1 s=some [(.normal,s)]:=qe
def zj7:Code:=ZgE zxR
theorem zdO:C 27 zxR s=ZmZ 0 (C 27 zj7 s):=qB
def zu1:Code:=ZgE zj7
theorem zKg:C 27 zj7 s=thenV (C 27 zu1 s) (C 27 zj7):=qL
def zuV:Code:=ZgE zu1
def zuW:Code:=ZhX zu1
theorem zBW:C 27 zu1 s=thenV (C 27 zuV s) (C 27 zuW):=qS
def zaF:Code:=ZgE zuV
def zuX:Code:=ZhX zuV
theorem zBm:C 27 zuV s=thenV (C 27 zaF s) (C 27 zuX):=qS
theorem zBs:C 27 zaF s=O 27 zaF 0 s:=qG 3
theorem zBo:O 27 zaF 0 s=Zbb s (some 7) (some {v:=R s 4}) (O 27 zaF 1):=oR
theorem zBp:O 27 zaF 1 s=Zbb s (some 8) (some {v:=R s 0}) (O 27 zaF 2):=oR
theorem zBq:O 27 zaF 2 s=Zbb s (some 9) (val (ZmJ Tryz.prog .lss 3 false false (R s 7) (R s 8))) (O 27 zaF 3):=oR
theorem zBr:O 27 zaF 3 s=some [(.normal,s)]:=qe
def zBu:Code:=ZgE zuX
def zBw:Code:=ZhX zuX
theorem zBt:C 27 zuX s=ZmY (R s 9) (C 27 zBu) (C 27 zBw) s:=qC
theorem zBv:C 27 zBu s=some [(.normal,s)]:=qK
theorem zBx:C 27 zBw s=some [(.exit 0,s)]:=qE
def zxQ:Code:=ZgE zuW
def zaG:Code:=ZhX zuW
theorem zBn:C 27 zuW s=thenV (C 27 zxQ s) (C 27 zaG):=qS
def Q7:Code:=ZgE zxQ
theorem zdI:C 27 zxQ s=ZmZ 1 (C 27 Q7 s):=qB
theorem zBI:C 27 Q7 s=O 27 Q7 0 s:=qG 5
theorem zBD:O 27 Q7 0 s=Zbb s (some 12) (some {v:=R s 3}) (O 27 Q7 1):=oR
theorem zBE:O 27 Q7 1 s=Zbb s (some 13) (some {v:=R s 4}) (O 27 Q7 2):=oR
theorem zBF:O 27 Q7 2 s=Zbb s (some 14) (val (indexAddr Tryz.prog 39 (R s 12) (R s 13))) (O 27 Q7 3):=oR
theorem zBG:O 27 Q7 3 s=Zbb s none (ZnB Tryz.prog 4 s.h.get (R s 14) (.bool true)) (O 27 Q7 4):=oR
theorem zBH:O 27 Q7 4 s=some [(.normal,s)]:=qe
theorem zBC:C 27 zaG s=O 27 zaG 0 s:=qG 4
theorem zBy:O 27 zaG 0 s=Zbb s (some 10) (some {v:=R s 4}) (O 27 zaG 1):=oR
theorem zBz:O 27 zaG 1 s=Zbb s (some 11) (val (ZmJ Tryz.prog .add 3 false true (R s 10) (.int .i64 (1)))) (O 27 zaG 2):=oR
theorem zBA:O 27 zaG 2 s=Zbb s (some 4) (some {v:=R s 11}) (O 27 zaG 3):=oR
theorem zBB:O 27 zaG 3 s=some [(.normal,s)]:=qe
def zbx:Code:=ZgE zu0
def zBN:Code:=ZhX zu0
theorem zdN:C 27 zu0 s=thenV (C 27 zbx s) (C 27 zBN):=qS
theorem zBM:C 27 zbx s=O 27 zbx 0 s:=qG 6
theorem zBJ:O 27 zbx 0 s=Zbb s (some 15) (some {v:=R s 3}) (O 27 zbx 1):=oR
theorem zBK:O 27 zbx 1 s=Zbb s (some 2) (some {v:=R s 15}) (O 27 zbx 2):=oR
theorem zBL:O 27 zbx 2 s=some [(.normal,s)]:=qe
theorem zBO:C 27 zBN s=some [(.ret,s)]:=qR
end
section
variable (dn:List (Nat×Foot)) (s:St)
def k26:Code:=Tryz.f26.body.getD .skip
theorem zKf (args:List V) (ha:args.length≤109) (h:H):(EV Tryz.prog hs ks).call 26 args h=Zm1 Tryz.prog hs ks Tryz.f26 (C 26 k26 (S 109 (ZCl args 0 fun _=> ZmM) [] h)):=Qu Tryz.func26 (by kernel_rfl) (by kernel_rfl) (by decide) rfl ha h
theorem zdH (f:Nat→V) (h:H):Zm1 Tryz.prog hs ks Tryz.f26 (some [(.ret,S 109 f [] h)])=ZCp (ZCk Tryz.prog (S 109 f [] h) [.tmp 8]) h:=Zc (by kernel_rfl) (Or.inl rfl) _ _
def zcz:Code:=ZgE k26
def zrt:Code:=ZhX k26
theorem zdG:C 26 k26 s=thenV (C 26 zcz s) (C 26 zrt):=qS
theorem zdy:C 26 zcz s=O 26 zcz 0 s:=qG 0
theorem zrr:O 26 zcz 0 s=Zbb s (some 8) (some {v:=(.nils)}) (O 26 zcz 1):=oR
theorem zrs:O 26 zcz 1 s=some [(.normal,s)]:=qe
def zcA:Code:=ZgE zrt
def zsk:Code:=ZhX zrt
theorem zbp:C 26 zrt s=thenV (C 26 zcA s) (C 26 zsk):=qS
theorem zsj:C 26 zcA s=O 26 zcA 0 s:=qG 1
theorem zsh:O 26 zcA 0 s=Zbb s (some 9) (some {v:=(.nils)}) (O 26 zcA 1):=oR
theorem zsi:O 26 zcA 1 s=some [(.normal,s)]:=qe
def zsO:Code:=ZgE zsk
def zs4:Code:=ZhX zsk
theorem zbt:C 26 zsk s=thenV (C 26 zsO s) (C 26 zs4):=qS
def zcI:Code:=ZgE zsO
def zxN:Code:=ZhX zsO
theorem zbu:C 26 zsO s=thenV (C 26 zcI s) (C 26 zxN):=qS
theorem ztE:C 26 zcI s=O 26 zcI 0 s:=qG 2
theorem ztC:O 26 zcI 0 s=Zbb s (some 10) (some {v:=(.int .i64 (0))}) (O 26 zcI 1):=oR
theorem ztD:O 26 zcI 1 s=some [(.normal,s)]:=qe
def zj6:Code:=ZgE zxN
theorem zaE:C 26 zxN s=ZmZ 0 (C 26 zj6 s):=qB
def zuS:Code:=ZgE zj6
theorem zBj:C 26 zj6 s=thenV (C 26 zuS s) (C 26 zj6):=qL
def zru:Code:=ZgE zuS
def zrw:Code:=ZhX zuS
theorem zuT:C 26 zuS s=thenV (C 26 zru s) (C 26 zrw):=qS
def QA:Code:=ZgE zru
def zrG:Code:=ZhX zru
theorem zrv:C 26 zru s=thenV (C 26 QA s) (C 26 zrG):=qS
theorem zrF:C 26 QA s=O 26 QA 0 s:=qG 3
theorem zry:O 26 QA 0 s=Zbb s (some 15) (some {v:=R s 10}) (O 26 QA 1):=oR
theorem zrz:O 26 QA 1 s=Zbb s (some 16) (some {v:=R s 0}) (O 26 QA 2):=oR
theorem zrA:O 26 QA 2 s=Zbb s (some 17) (some {v:=R s 1}) (O 26 QA 3):=oR
theorem zrB:O 26 QA 3 s=Zbb s (some 18) (ZmL Tryz.prog false s.h.get s.h.n .len [22] [R s 17]) (O 26 QA 4):=oR
theorem zrC:O 26 QA 4 s=Zbb s (some 19) (val (ZmJ Tryz.prog .add 3 false false (R s 16) (R s 18))) (O 26 QA 5):=oR
theorem zrD:O 26 QA 5 s=Zbb s (some 20) (val (ZmJ Tryz.prog .lss 3 false false (R s 15) (R s 19))) (O 26 QA 6):=oR
theorem zrE:O 26 QA 6 s=some [(.normal,s)]:=qe
def zA6:Code:=ZgE zrG
def zA7:Code:=ZhX zrG
theorem zrH:C 26 zrG s=ZmY (R s 20) (C 26 zA6) (C 26 zA7) s:=qC
theorem zrI:C 26 zA6 s=some [(.normal,s)]:=qK
theorem zrJ:C 26 zA7 s=some [(.exit 0,s)]:=qE
def zxE:Code:=ZgE zrw
def zax:Code:=ZhX zrw
theorem zrx:C 26 zrw s=thenV (C 26 zxE s) (C 26 zax):=qS
def QN:Code:=ZgE zxE
theorem zrK:C 26 zxE s=ZmZ 1 (C 26 QN s):=qB
theorem zrW:C 26 QN s=O 26 QN 0 s:=qG 5
theorem zrQ:O 26 QN 0 s=Zbb s (some 23) (some {v:=R s 9}) (O 26 QN 1):=oR
theorem zrR:O 26 QN 1 s=Zbb s (some 24) (some {v:=R s 10}) (O 26 QN 2):=oR
theorem zrS:O 26 QN 2 s=Zbb s (some 25) (ZDl Tryz.prog false 27 1 [(0,(R s 24))] s.h.n) (O 26 QN 3):=oR
theorem zrT:O 26 QN 3 s=Zbb s (some 26) (ZmL Tryz.prog true s.h.get s.h.n .append [27,27] [R s 23,R s 25]) (O 26 QN 4):=oR
theorem zrU:O 26 QN 4 s=Zbb s (some 9) (some {v:=R s 26}) (O 26 QN 5):=oR
theorem zrV:O 26 QN 5 s=some [(.normal,s)]:=qe
theorem zrP:C 26 zax s=O 26 zax 0 s:=qG 4
theorem zrL:O 26 zax 0 s=Zbb s (some 21) (some {v:=R s 10}) (O 26 zax 1):=oR
theorem zrM:O 26 zax 1 s=Zbb s (some 22) (val (ZmJ Tryz.prog .add 3 false true (R s 21) (.int .i64 (1)))) (O 26 zax 2):=oR
theorem zrN:O 26 zax 2 s=Zbb s (some 10) (some {v:=R s 22}) (O 26 zax 3):=oR
theorem zrO:O 26 zax 3 s=some [(.normal,s)]:=qe
def zrX:Code:=ZgE zs4
def zrY:Code:=ZhX zs4
theorem zbv:C 26 zs4 s=thenV (C 26 zrX s) (C 26 zrY):=qS
def zcB:Code:=ZgE zrX
def zxF:Code:=ZhX zrX
theorem zbo:C 26 zrX s=thenV (C 26 zcB s) (C 26 zxF):=qS
theorem zr1:C 26 zcB s=O 26 zcB 0 s:=qG 6
theorem zrZ:O 26 zcB 0 s=Zbb s (some 11) (some {v:=(.int .i64 (0))}) (O 26 zcB 1):=oR
theorem zr0:O 26 zcB 1 s=some [(.normal,s)]:=qe
def zj2:Code:=ZgE zxF
theorem zay:C 26 zxF s=ZmZ 2 (C 26 zj2 s):=qB
def zr2:Code:=ZgE zj2
theorem zxG:C 26 zj2 s=thenV (C 26 zr2 s) (C 26 zj2):=qL
def zr4:Code:=ZgE zr2
def zr6:Code:=ZhX zr2
theorem zr3:C 26 zr2 s=thenV (C 26 zr4 s) (C 26 zr6):=qS
def Q4:Code:=ZgE zr4
def zse:Code:=ZhX zr4
theorem zr5:C 26 zr4 s=thenV (C 26 Q4 s) (C 26 zse):=qS
theorem zsd:C 26 Q4 s=O 26 Q4 0 s:=qG 7
theorem zr8:O 26 Q4 0 s=Zbb s (some 27) (some {v:=R s 11}) (O 26 Q4 1):=oR
theorem zr9:O 26 Q4 1 s=Zbb s (some 28) (some {v:=R s 2}) (O 26 Q4 2):=oR
theorem zsa:O 26 Q4 2 s=Zbb s (some 29) (ZmL Tryz.prog false s.h.get s.h.n .len [22] [R s 28]) (O 26 Q4 3):=oR
theorem zsb:O 26 Q4 3 s=Zbb s (some 30) (val (ZmJ Tryz.prog .lss 3 false false (R s 27) (R s 29))) (O 26 Q4 4):=oR
theorem zsc:O 26 Q4 4 s=some [(.normal,s)]:=qe
def zA8:Code:=ZgE zse
def zA9:Code:=ZhX zse
theorem zsf:C 26 zse s=ZmY (R s 30) (C 26 zA8) (C 26 zA9) s:=qC
theorem zsg:C 26 zA8 s=some [(.normal,s)]:=qK
theorem zsl:C 26 zA9 s=some [(.exit 2,s)]:=qE
def zsm:Code:=ZgE zr6
def zaz:Code:=ZhX zr6
theorem zr7:C 26 zr6 s=thenV (C 26 zsm s) (C 26 zaz):=qS
def zsr:Code:=ZgE zsm
theorem zbG:C 26 zsm s=ZmZ 3 (C 26 zsr s):=qB
def Q5:Code:=ZgE zsr
def zsx:Code:=ZhX zsr
theorem zcC:C 26 zsr s=thenV (C 26 Q5 s) (C 26 zsx):=qS
theorem zcD:C 26 Q5 s=O 26 Q5 0 s:=qG 9
theorem zss:O 26 Q5 0 s=Zbb s (some 33) (some {v:=R s 3}) (O 26 Q5 1):=oR
theorem zst:O 26 Q5 1 s=Zbb s (some 34) (some {v:=R s 11}) (O 26 Q5 2):=oR
theorem zsu:O 26 Q5 2 s=Zbb s (some 35) (val (indexAddr Tryz.prog 39 (R s 33) (R s 34))) (O 26 Q5 3):=oR
theorem zsv:O 26 Q5 3 s=Zbb s (some 36) (Zi3 Tryz.prog 4 s.h.get (R s 35)) (O 26 Q5 4):=oR
theorem zsw:O 26 Q5 4 s=some [(.normal,s)]:=qe
def JK:Code:=ZgE zsx
def zBa:Code:=ZhX zsx
theorem zbI:C 26 zsx s=ZmY (R s 36) (C 26 JK) (C 26 zBa) s:=qC
def Zh:List Nat:=[0,0,0,6,14,30,0,0,192,448,960,2047]
theorem zbJ:C 26 JK s=D 26 JK Zh 0 [] s:=qD 10
theorem zsy:D 26 JK Zh 0 dn s=ZhW s (some 37) 0 Zh dn (some {v:=R s 9}) (D 26 JK Zh 1):=dR
theorem zsz:D 26 JK Zh 1 dn s=ZhW s (some 38) 1 Zh dn (some {v:=R s 2}) (D 26 JK Zh 2):=dR
theorem zsD:D 26 JK Zh 2 dn s=ZhW s (some 39) 2 Zh dn (some {v:=R s 11}) (D 26 JK Zh 3):=dR
theorem zsE:D 26 JK Zh 3 dn s=ZhW s (some 40) 3 Zh dn (val (indexAddr Tryz.prog 22 (R s 38) (R s 39))) (D 26 JK Zh 4):=dR
theorem zsF:D 26 JK Zh 4 dn s=ZhW s (some 41) 4 Zh dn (val (indexAddr Tryz.prog 42 (R s 40) (.int .i64 (0)))) (D 26 JK Zh 5):=dR
theorem zsG:D 26 JK Zh 5 dn s=ZhW s (some 42) 5 Zh dn (Zi3 Tryz.prog 3 s.h.get (R s 41)) (D 26 JK Zh 6):=dR
theorem zsH:D 26 JK Zh 6 dn s=ZhW s (some 43) 6 Zh dn (some {v:=R s 2}) (D 26 JK Zh 7):=dR
theorem zsI:D 26 JK Zh 7 dn s=ZhW s (some 44) 7 Zh dn (some {v:=R s 11}) (D 26 JK Zh 8):=dR
theorem zsJ:D 26 JK Zh 8 dn s=ZhW s (some 45) 8 Zh dn (val (indexAddr Tryz.prog 22 (R s 43) (R s 44))) (D 26 JK Zh 9):=dR
theorem zsK:D 26 JK Zh 9 dn s=ZhW s (some 46) 9 Zh dn (val (indexAddr Tryz.prog 42 (R s 45) (.int .i64 (1)))) (D 26 JK Zh 10):=dR
theorem zsA:D 26 JK Zh 10 dn s=ZhW s (some 47) 10 Zh dn (Zi3 Tryz.prog 3 s.h.get (R s 46)) (D 26 JK Zh 11):=dR
theorem zsB:D 26 JK Zh 11 dn s=ZhW s (some 48) 11 Zh dn (ZDd hs ks (EV Tryz.prog hs ks) s.h.get s.h.n (some (.func 50 [R s 37,R s 42,R s 47]))) (D 26 JK Zh 12):=dC
theorem zsC:D 26 JK Zh 12 dn s=some [(.normal,s)]:=qd
theorem zsL:C 26 zBa s=some [(.normal,s)]:=qK
theorem zbH:C 26 zaz s=O 26 zaz 0 s:=qG 8
theorem zsn:O 26 zaz 0 s=Zbb s (some 31) (some {v:=R s 11}) (O 26 zaz 1):=oR
theorem zso:O 26 zaz 1 s=Zbb s (some 32) (val (ZmJ Tryz.prog .add 3 false true (R s 31) (.int .i64 (1)))) (O 26 zaz 2):=oR
theorem zsp:O 26 zaz 2 s=Zbb s (some 11) (some {v:=R s 32}) (O 26 zaz 3):=oR
theorem zsq:O 26 zaz 3 s=some [(.normal,s)]:=qe
def zsM:Code:=ZgE zrY
def zsN:Code:=ZhX zrY
theorem zbq:C 26 zrY s=thenV (C 26 zsM s) (C 26 zsN):=qS
def zcE:Code:=ZgE zsM
def zxH:Code:=ZhX zsM
theorem zbr:C 26 zsM s=thenV (C 26 zcE s) (C 26 zxH):=qS
theorem zsR:C 26 zcE s=O 26 zcE 0 s:=qG 11
theorem zsP:O 26 zcE 0 s=Zbb s (some 12) (some {v:=(.bool true)}) (O 26 zcE 1):=oR
theorem zsQ:O 26 zcE 1 s=some [(.normal,s)]:=qe
def zj3:Code:=ZgE zxH
theorem zaA:C 26 zxH s=ZmZ 4 (C 26 zj3 s):=qB
def zsS:Code:=ZgE zj3
theorem zxI:C 26 zj3 s=thenV (C 26 zsS s) (C 26 zj3):=qL
def zsU:Code:=ZgE zsS
def zsW:Code:=ZhX zsS
theorem zsT:C 26 zsS s=thenV (C 26 zsU s) (C 26 zsW):=qS
def zcF:Code:=ZgE zsU
def zs0:Code:=ZhX zsU
theorem zsV:C 26 zsU s=thenV (C 26 zcF s) (C 26 zs0):=qS
theorem zsZ:C 26 zcF s=O 26 zcF 0 s:=qG 12
theorem zsX:O 26 zcF 0 s=Zbb s (some 49) (some {v:=R s 12}) (O 26 zcF 1):=oR
theorem zsY:O 26 zcF 1 s=some [(.normal,s)]:=qe
def zBb:Code:=ZgE zs0
def zBc:Code:=ZhX zs0
theorem zs1:C 26 zs0 s=ZmY (R s 49) (C 26 zBb) (C 26 zBc) s:=qC
theorem zs2:C 26 zBb s=some [(.normal,s)]:=qK
theorem zs3:C 26 zBc s=some [(.exit 4,s)]:=qE
def zs5:Code:=ZgE zsW
theorem zbK:C 26 zsW s=ZmZ 5 (C 26 zs5 s):=qB
def zcG:Code:=ZgE zs5
def zs9:Code:=ZhX zs5
theorem zdz:C 26 zs5 s=thenV (C 26 zcG s) (C 26 zs9):=qS
theorem zs8:C 26 zcG s=O 26 zcG 0 s:=qG 13
theorem zs6:O 26 zcG 0 s=Zbb s (some 12) (some {v:=(.bool false)}) (O 26 zcG 1):=oR
theorem zs7:O 26 zcG 1 s=some [(.normal,s)]:=qe
def zcH:Code:=ZgE zs9
def zxJ:Code:=ZhX zs9
theorem zdA:C 26 zs9 s=thenV (C 26 zcH s) (C 26 zxJ):=qS
theorem ztc:C 26 zcH s=O 26 zcH 0 s:=qG 14
theorem zta:O 26 zcH 0 s=Zbb s (some 13) (some {v:=(.int .i64 (0))}) (O 26 zcH 1):=oR
theorem ztb:O 26 zcH 1 s=some [(.normal,s)]:=qe
def zj4:Code:=ZgE zxJ
theorem zbL:C 26 zxJ s=ZmZ 6 (C 26 zj4 s):=qB
def ztd:Code:=ZgE zj4
theorem zxK:C 26 zj4 s=thenV (C 26 ztd s) (C 26 zj4):=qL
def ztf:Code:=ZgE ztd
def zth:Code:=ZhX ztd
theorem zte:C 26 ztd s=thenV (C 26 ztf s) (C 26 zth):=qS
def Q6:Code:=ZgE ztf
def zto:Code:=ZhX ztf
theorem ztg:C 26 ztf s=thenV (C 26 Q6 s) (C 26 zto):=qS
theorem ztn:C 26 Q6 s=O 26 Q6 0 s:=qG 15
theorem zti:O 26 Q6 0 s=Zbb s (some 50) (some {v:=R s 13}) (O 26 Q6 1):=oR
theorem ztj:O 26 Q6 1 s=Zbb s (some 51) (some {v:=R s 1}) (O 26 Q6 2):=oR
theorem ztk:O 26 Q6 2 s=Zbb s (some 52) (ZmL Tryz.prog false s.h.get s.h.n .len [22] [R s 51]) (O 26 Q6 3):=oR
theorem ztl:O 26 Q6 3 s=Zbb s (some 53) (val (ZmJ Tryz.prog .lss 3 false false (R s 50) (R s 52))) (O 26 Q6 4):=oR
theorem ztm:O 26 Q6 4 s=some [(.normal,s)]:=qe
def zBd:Code:=ZgE zto
def zBe:Code:=ZhX zto
theorem ztp:C 26 zto s=ZmY (R s 53) (C 26 zBd) (C 26 zBe) s:=qC
theorem ztq:C 26 zBd s=some [(.normal,s)]:=qK
theorem ztr:C 26 zBe s=some [(.exit 6,s)]:=qE
def zxL:Code:=ZgE zth
def zaB:Code:=ZhX zth
theorem zdB:C 26 zth s=thenV (C 26 zxL s) (C 26 zaB):=qS
def ztw:Code:=ZgE zxL
theorem zbM:C 26 zxL s=ZmZ 7 (C 26 ztw s):=qB
def zcJ:Code:=ZgE ztw
def zxM:Code:=ZhX ztw
theorem zdC:C 26 ztw s=thenV (C 26 zcJ s) (C 26 zxM):=qS
theorem ztz:C 26 zcJ s=O 26 zcJ 0 s:=qG 17
theorem ztx:O 26 zcJ 0 s=Zbb s (some 14) (some {v:=(.int .i64 (0))}) (O 26 zcJ 1):=oR
theorem zty:O 26 zcJ 1 s=some [(.normal,s)]:=qe
def zj5:Code:=ZgE zxM
theorem zbO:C 26 zxM s=ZmZ 8 (C 26 zj5 s):=qB
def ztA:Code:=ZgE zj5
theorem zKe:C 26 zj5 s=thenV (C 26 ztA s) (C 26 zj5):=qL
def ztF:Code:=ZgE ztA
def ztH:Code:=ZhX ztA
theorem ztB:C 26 ztA s=thenV (C 26 ztF s) (C 26 ztH):=qS
def zaC:Code:=ZgE ztF
def ztN:Code:=ZhX ztF
theorem ztG:C 26 ztF s=thenV (C 26 zaC s) (C 26 ztN):=qS
theorem ztM:C 26 zaC s=O 26 zaC 0 s:=qG 18
theorem ztI:O 26 zaC 0 s=Zbb s (some 56) (some {v:=R s 14}) (O 26 zaC 1):=oR
theorem ztJ:O 26 zaC 1 s=Zbb s (some 57) (some {v:=R s 13}) (O 26 zaC 2):=oR
theorem ztK:O 26 zaC 2 s=Zbb s (some 58) (val (ZmJ Tryz.prog .lss 3 false false (R s 56) (R s 57))) (O 26 zaC 3):=oR
theorem ztL:O 26 zaC 3 s=some [(.normal,s)]:=qe
def zBf:Code:=ZgE ztN
def zBg:Code:=ZhX ztN
theorem ztO:C 26 ztN s=ZmY (R s 58) (C 26 zBf) (C 26 zBg) s:=qC
theorem ztP:C 26 zBf s=some [(.normal,s)]:=qK
theorem ztQ:C 26 zBg s=some [(.exit 8,s)]:=qE
def ztR:Code:=ZgE ztH
def zaD:Code:=ZhX ztH
theorem zdD:C 26 ztH s=thenV (C 26 ztR s) (C 26 zaD):=qS
def ztW:Code:=ZgE ztR
theorem zbP:C 26 ztR s=ZmZ 9 (C 26 ztW s):=qB
def zh:Code:=ZgE ztW
def zuy:Code:=ZhX ztW
theorem zdE:C 26 ztW s=thenV (C 26 zh s) (C 26 zuy):=qS
def zd:List Nat:=[0,0,0,6,14,30,63,127,0,0,0,1536,3584,7680,16128,32512,65535,131071,262143,262143,262143,1835007,3932159,8126463,16777215,33554431,262143,262143,262143,402915327,939786239,2013528063,4228120575,8523087871,17179869183,34359738367]
theorem zbR:C 26 zh s=D 26 zh zd 0 [] s:=qD 20
theorem ztX:D 26 zh zd 0 dn s=ZhW s (some 61) 0 zd dn (some {v:=R s 9}) (D 26 zh zd 1):=dR
theorem ztY:D 26 zh zd 1 dn s=ZhW s (some 62) 1 zd dn (some {v:=R s 1}) (D 26 zh zd 2):=dR
theorem zt9:D 26 zh zd 2 dn s=ZhW s (some 63) 2 zd dn (some {v:=R s 13}) (D 26 zh zd 3):=dR
theorem zuk:D 26 zh zd 3 dn s=ZhW s (some 64) 3 zd dn (val (indexAddr Tryz.prog 22 (R s 62) (R s 63))) (D 26 zh zd 4):=dR
theorem zus:D 26 zh zd 4 dn s=ZhW s (some 65) 4 zd dn (val (indexAddr Tryz.prog 42 (R s 64) (.int .i64 (0)))) (D 26 zh zd 5):=dR
theorem zut:D 26 zh zd 5 dn s=ZhW s (some 66) 5 zd dn (Zi3 Tryz.prog 3 s.h.get (R s 65)) (D 26 zh zd 6):=dR
theorem zuu:D 26 zh zd 6 dn s=ZhW s (some 67) 6 zd dn (val (indexAddr Tryz.prog 27 (R s 61) (R s 66))) (D 26 zh zd 7):=dR
theorem zuv:D 26 zh zd 7 dn s=ZhW s (some 68) 7 zd dn (Zi3 Tryz.prog 3 s.h.get (R s 67)) (D 26 zh zd 8):=dR
theorem zuw:D 26 zh zd 8 dn s=ZhW s (some 69) 8 zd dn (some {v:=R s 9}) (D 26 zh zd 9):=dR
theorem zux:D 26 zh zd 9 dn s=ZhW s (some 70) 9 zd dn (some {v:=R s 1}) (D 26 zh zd 10):=dR
theorem ztZ:D 26 zh zd 10 dn s=ZhW s (some 71) 10 zd dn (some {v:=R s 14}) (D 26 zh zd 11):=dR
theorem zt0:D 26 zh zd 11 dn s=ZhW s (some 72) 11 zd dn (val (indexAddr Tryz.prog 22 (R s 70) (R s 71))) (D 26 zh zd 12):=dR
theorem zt1:D 26 zh zd 12 dn s=ZhW s (some 73) 12 zd dn (val (indexAddr Tryz.prog 42 (R s 72) (.int .i64 (0)))) (D 26 zh zd 13):=dR
theorem zt2:D 26 zh zd 13 dn s=ZhW s (some 74) 13 zd dn (Zi3 Tryz.prog 3 s.h.get (R s 73)) (D 26 zh zd 14):=dR
theorem zt3:D 26 zh zd 14 dn s=ZhW s (some 75) 14 zd dn (val (indexAddr Tryz.prog 27 (R s 69) (R s 74))) (D 26 zh zd 15):=dR
theorem zt4:D 26 zh zd 15 dn s=ZhW s (some 76) 15 zd dn (Zi3 Tryz.prog 3 s.h.get (R s 75)) (D 26 zh zd 16):=dR
theorem zt5:D 26 zh zd 16 dn s=ZhW s (some 77) 16 zd dn (val (ZmJ Tryz.prog .eql 3 false false (R s 68) (R s 76))) (D 26 zh zd 17):=dR
theorem zt6:D 26 zh zd 17 dn s=ZhW s (some 78) 17 zd dn (some {v:=R s 77}) (D 26 zh zd 18):=dR
theorem zt7:D 26 zh zd 18 dn s=if Zmx (R s 78) true=true then ZhW s (some 79) 18 zd dn (some {v:=R s 9}) (D 26 zh zd 19) else D 26 zh zd 19 dn (ZmH s (some 79)):=dI
theorem zt8:D 26 zh zd 19 dn s=if Zmx (R s 78) true=true then ZhW s (some 80) 19 zd dn (some {v:=R s 1}) (D 26 zh zd 20) else D 26 zh zd 20 dn (ZmH s (some 80)):=dI
theorem zua:D 26 zh zd 20 dn s=if Zmx (R s 78) true=true then ZhW s (some 81) 20 zd dn (some {v:=R s 13}) (D 26 zh zd 21) else D 26 zh zd 21 dn (ZmH s (some 81)):=dI
theorem zub:D 26 zh zd 21 dn s=if Zmx (R s 78) true=true then ZhW s (some 82) 21 zd dn (val (indexAddr Tryz.prog 22 (R s 80) (R s 81))) (D 26 zh zd 22) else D 26 zh zd 22 dn (ZmH s (some 82)):=dI
theorem zuc:D 26 zh zd 22 dn s=if Zmx (R s 78) true=true then ZhW s (some 83) 22 zd dn (val (indexAddr Tryz.prog 42 (R s 82) (.int .i64 (1)))) (D 26 zh zd 23) else D 26 zh zd 23 dn (ZmH s (some 83)):=dI
theorem zud:D 26 zh zd 23 dn s=if Zmx (R s 78) true=true then ZhW s (some 84) 23 zd dn (Zi3 Tryz.prog 3 s.h.get (R s 83)) (D 26 zh zd 24) else D 26 zh zd 24 dn (ZmH s (some 84)):=dI
theorem zue:D 26 zh zd 24 dn s=if Zmx (R s 78) true=true then ZhW s (some 85) 24 zd dn (val (indexAddr Tryz.prog 27 (R s 79) (R s 84))) (D 26 zh zd 25) else D 26 zh zd 25 dn (ZmH s (some 85)):=dI
theorem zuf:D 26 zh zd 25 dn s=if Zmx (R s 78) true=true then ZhW s (some 86) 25 zd dn (Zi3 Tryz.prog 3 s.h.get (R s 85)) (D 26 zh zd 26) else D 26 zh zd 26 dn (ZmH s (some 86)):=dI
theorem zug:D 26 zh zd 26 dn s=if Zmx (R s 78) true=true then ZhW s (some 87) 26 zd dn (some {v:=R s 9}) (D 26 zh zd 27) else D 26 zh zd 27 dn (ZmH s (some 87)):=dI
theorem zuh:D 26 zh zd 27 dn s=if Zmx (R s 78) true=true then ZhW s (some 88) 27 zd dn (some {v:=R s 1}) (D 26 zh zd 28) else D 26 zh zd 28 dn (ZmH s (some 88)):=dI
theorem zui:D 26 zh zd 28 dn s=if Zmx (R s 78) true=true then ZhW s (some 89) 28 zd dn (some {v:=R s 14}) (D 26 zh zd 29) else D 26 zh zd 29 dn (ZmH s (some 89)):=dI
theorem zuj:D 26 zh zd 29 dn s=if Zmx (R s 78) true=true then ZhW s (some 90) 29 zd dn (val (indexAddr Tryz.prog 22 (R s 88) (R s 89))) (D 26 zh zd 30) else D 26 zh zd 30 dn (ZmH s (some 90)):=dI
theorem zul:D 26 zh zd 30 dn s=if Zmx (R s 78) true=true then ZhW s (some 91) 30 zd dn (val (indexAddr Tryz.prog 42 (R s 90) (.int .i64 (1)))) (D 26 zh zd 31) else D 26 zh zd 31 dn (ZmH s (some 91)):=dI
theorem zum:D 26 zh zd 31 dn s=if Zmx (R s 78) true=true then ZhW s (some 92) 31 zd dn (Zi3 Tryz.prog 3 s.h.get (R s 91)) (D 26 zh zd 32) else D 26 zh zd 32 dn (ZmH s (some 92)):=dI
theorem zun:D 26 zh zd 32 dn s=if Zmx (R s 78) true=true then ZhW s (some 93) 32 zd dn (val (indexAddr Tryz.prog 27 (R s 87) (R s 92))) (D 26 zh zd 33) else D 26 zh zd 33 dn (ZmH s (some 93)):=dI
theorem zuo:D 26 zh zd 33 dn s=if Zmx (R s 78) true=true then ZhW s (some 94) 33 zd dn (Zi3 Tryz.prog 3 s.h.get (R s 93)) (D 26 zh zd 34) else D 26 zh zd 34 dn (ZmH s (some 94)):=dI
theorem zup:D 26 zh zd 34 dn s=if Zmx (R s 78) true=true then ZhW s (some 95) 34 zd dn (val (ZmJ Tryz.prog .eql 3 false false (R s 86) (R s 94))) (D 26 zh zd 35) else D 26 zh zd 35 dn (ZmH s (some 95)):=dI
theorem zuq:D 26 zh zd 35 dn s=ZhW s (some 96) 35 zd dn (ZCE (R s 78) (R s 95) (.bool false)) (D 26 zh zd 36):=dR
theorem zur:D 26 zh zd 36 dn s=some [(.normal,s)]:=qd
def Z6:Code:=ZgE zuy
def zBh:Code:=ZhX zuy
theorem zbS:C 26 zuy s=ZmY (R s 96) (C 26 Z6) (C 26 zBh) s:=qC
theorem zdF:C 26 Z6 s=O 26 Z6 0 s:=qG 21
theorem zuz:O 26 Z6 0 s=Zbb s (some 97) (some {v:=R s 9}) (O 26 Z6 1):=oR
theorem zuA:O 26 Z6 1 s=Zbb s (some 98) (some {v:=R s 0}) (O 26 Z6 2):=oR
theorem zuE:O 26 Z6 2 s=Zbb s (some 99) (some {v:=R s 13}) (O 26 Z6 3):=oR
theorem zuF:O 26 Z6 3 s=Zbb s (some 100) (val (ZmJ Tryz.prog .add 3 false false (R s 98) (R s 99))) (O 26 Z6 4):=oR
theorem zuG:O 26 Z6 4 s=Zbb s (some 101) (some {v:=R s 0}) (O 26 Z6 5):=oR
theorem zuH:O 26 Z6 5 s=Zbb s (some 102) (some {v:=R s 14}) (O 26 Z6 6):=oR
theorem zuI:O 26 Z6 6 s=Zbb s (some 103) (val (ZmJ Tryz.prog .add 3 false false (R s 101) (R s 102))) (O 26 Z6 7):=oR
theorem zuJ:O 26 Z6 7 s=ZCo (some 104) s (ZCi Tryz.prog hs ks 50 [R s 97,R s 100,R s 103] s.h) (O 26 Z6 8):=cR
theorem zuK:O 26 Z6 8 s=Zbb s (some 105) (some {v:=R s 104}) (O 26 Z6 9):=oR
theorem zuL:O 26 Z6 9 s=if Zmx (R s 105) false=true then Zbb s (some 106) (some {v:=R s 12}) (O 26 Z6 10) else O 26 Z6 10 (ZmH s (some 106)):=oI
theorem zuB:O 26 Z6 10 s=Zbb s (some 107) (ZCE (R s 105) (.bool true) (R s 106)) (O 26 Z6 11):=oR
theorem zuC:O 26 Z6 11 s=Zbb s (some 12) (some {v:=R s 107}) (O 26 Z6 12):=oR
theorem zuD:O 26 Z6 12 s=some [(.normal,s)]:=qe
theorem zuM:C 26 zBh s=some [(.normal,s)]:=qK
theorem zbQ:C 26 zaD s=O 26 zaD 0 s:=qG 19
theorem ztS:O 26 zaD 0 s=Zbb s (some 59) (some {v:=R s 14}) (O 26 zaD 1):=oR
theorem ztT:O 26 zaD 1 s=Zbb s (some 60) (val (ZmJ Tryz.prog .add 3 false true (R s 59) (.int .i64 (1)))) (O 26 zaD 2):=oR
theorem ztU:O 26 zaD 2 s=Zbb s (some 14) (some {v:=R s 60}) (O 26 zaD 3):=oR
theorem ztV:O 26 zaD 3 s=some [(.normal,s)]:=qe
theorem zbN:C 26 zaB s=O 26 zaB 0 s:=qG 16
theorem zts:O 26 zaB 0 s=Zbb s (some 54) (some {v:=R s 13}) (O 26 zaB 1):=oR
theorem ztt:O 26 zaB 1 s=Zbb s (some 55) (val (ZmJ Tryz.prog .add 3 false true (R s 54) (.int .i64 (1)))) (O 26 zaB 2):=oR
theorem ztu:O 26 zaB 2 s=Zbb s (some 13) (some {v:=R s 55}) (O 26 zaB 3):=oR
theorem ztv:O 26 zaB 3 s=some [(.normal,s)]:=qe
def zbw:Code:=ZgE zsN
def zBi:Code:=ZhX zsN
theorem zbs:C 26 zsN s=thenV (C 26 zbw s) (C 26 zBi):=qS
theorem zuQ:C 26 zbw s=O 26 zbw 0 s:=qG 22
theorem zuN:O 26 zbw 0 s=Zbb s (some 108) (some {v:=R s 9}) (O 26 zbw 1):=oR
theorem zuO:O 26 zbw 1 s=Zbb s (some 8) (some {v:=R s 108}) (O 26 zbw 2):=oR
theorem zuP:O 26 zbw 2 s=some [(.normal,s)]:=qe
theorem zuR:C 26 zBi s=some [(.ret,s)]:=qR
def k50:Code:=Tryz.f50.body.getD .skip
theorem zUY (args:List V) (ha:args.length≤45) (h:H):(EV Tryz.prog hs ks).call 50 args h=Zm1 Tryz.prog hs ks Tryz.f50 (C 50 k50 (S 45 (ZCl args 0 fun _=> ZmM) [] h)):=Qu Tryz.func50 (by kernel_rfl) (by kernel_rfl) (by decide) rfl ha h
theorem zLZ (f:Nat→V) (h:H):Zm1 Tryz.prog hs ks Tryz.f50 (some [(.ret,S 45 f [] h)])=ZCp (ZCk Tryz.prog (S 45 f [] h) [.tmp 6]) h:=Zc (by kernel_rfl) (Or.inl rfl) _ _
def zc2:Code:=ZgE k50
def zvN:Code:=ZhX k50
theorem zLY:C 50 k50 s=thenV (C 50 zc2 s) (C 50 zvN):=qS
theorem zLI:C 50 zc2 s=O 50 zc2 0 s:=qG 0
theorem zTO:O 50 zc2 0 s=Zbb s (some 6) (some {v:=(.bool false)}) (O 50 zc2 1):=oR
theorem zTP:O 50 zc2 1 s=some [(.normal,s)]:=qe
def J1:Code:=ZgE zvN
def zvW:Code:=ZhX zvN
theorem zLP:C 50 zvN s=thenV (C 50 J1 s) (C 50 zvW):=qS
def ZD:List Nat:=[0,0,3,7,0,0,48,112,15,511]
theorem zLQ:C 50 J1 s=D 50 J1 ZD 0 [] s:=qD 1
theorem zUw:D 50 J1 ZD 0 dn s=ZhW s (some 12) 0 ZD dn (some {v:=R s 0}) (D 50 J1 ZD 1):=dR
theorem zUx:D 50 J1 ZD 1 dn s=ZhW s (some 13) 1 ZD dn (some {v:=R s 1}) (D 50 J1 ZD 2):=dR
theorem zUz:D 50 J1 ZD 2 dn s=ZhW s (some 14) 2 ZD dn (val (indexAddr Tryz.prog 27 (R s 12) (R s 13))) (D 50 J1 ZD 3):=dR
theorem zUA:D 50 J1 ZD 3 dn s=ZhW s (some 15) 3 ZD dn (Zi3 Tryz.prog 3 s.h.get (R s 14)) (D 50 J1 ZD 4):=dR
theorem zUB:D 50 J1 ZD 4 dn s=ZhW s (some 16) 4 ZD dn (some {v:=R s 0}) (D 50 J1 ZD 5):=dR
theorem zUC:D 50 J1 ZD 5 dn s=ZhW s (some 17) 5 ZD dn (some {v:=R s 2}) (D 50 J1 ZD 6):=dR
theorem zUD:D 50 J1 ZD 6 dn s=ZhW s (some 18) 6 ZD dn (val (indexAddr Tryz.prog 27 (R s 16) (R s 17))) (D 50 J1 ZD 7):=dR
theorem zUE:D 50 J1 ZD 7 dn s=ZhW s (some 19) 7 ZD dn (Zi3 Tryz.prog 3 s.h.get (R s 18)) (D 50 J1 ZD 8):=dR
theorem zUF:D 50 J1 ZD 8 dn s=ZhW s (some 7) 8 ZD dn (some {v:=R s 15}) (D 50 J1 ZD 9):=dR
theorem zUG:D 50 J1 ZD 9 dn s=ZhW s (some 8) 9 ZD dn (some {v:=R s 19}) (D 50 J1 ZD 10):=dR
theorem zUy:D 50 J1 ZD 10 dn s=some [(.normal,s)]:=qd
def zvY:Code:=ZgE zvW
def zvZ:Code:=ZhX zvW
theorem zLV:C 50 zvW s=thenV (C 50 zvY s) (C 50 zvZ):=qS
def zaR:Code:=ZgE zvY
def zv0:Code:=ZhX zvY
theorem zLW:C 50 zvY s=thenV (C 50 zaR s) (C 50 zv0):=qS
theorem zUU:C 50 zaR s=O 50 zaR 0 s:=qG 2
theorem zUQ:O 50 zaR 0 s=Zbb s (some 20) (some {v:=R s 7}) (O 50 zaR 1):=oR
theorem zUR:O 50 zaR 1 s=Zbb s (some 21) (some {v:=R s 8}) (O 50 zaR 2):=oR
theorem zUS:O 50 zaR 2 s=Zbb s (some 22) (val (ZmJ Tryz.prog .eql 3 false false (R s 20) (R s 21))) (O 50 zaR 3):=oR
theorem zUT:O 50 zaR 3 s=some [(.normal,s)]:=qe
def zv1:Code:=ZgE zv0
def zCg:Code:=ZhX zv0
theorem zUV:C 50 zv0 s=ZmY (R s 22) (C 50 zv1) (C 50 zCg) s:=qC
def zc3:Code:=ZgE zv1
def zCa:Code:=ZhX zv1
theorem zUW:C 50 zv1 s=thenV (C 50 zc3 s) (C 50 zCa):=qS
theorem zTS:C 50 zc3 s=O 50 zc3 0 s:=qG 3
theorem zTQ:O 50 zc3 0 s=Zbb s (some 6) (some {v:=(.bool false)}) (O 50 zc3 1):=oR
theorem zTR:O 50 zc3 1 s=some [(.normal,s)]:=qe
theorem zTT:C 50 zCa s=some [(.ret,s)]:=qR
theorem zUX:C 50 zCg s=some [(.normal,s)]:=qK
def Qj:Code:=ZgE zvZ
def zvO:Code:=ZhX zvZ
theorem zLX:C 50 zvZ s=thenV (C 50 Qj s) (C 50 zvO):=qS
theorem zLJ:C 50 Qj s=O 50 Qj 0 s:=qG 4
theorem zTU:O 50 Qj 0 s=Zbb s (some 23) (some {v:=R s 7}) (O 50 Qj 1):=oR
theorem zTV:O 50 Qj 1 s=Zbb s (some 24) (some {v:=R s 8}) (O 50 Qj 2):=oR
theorem zTW:O 50 Qj 2 s=Zbb s (some 25) (ZmL Tryz.prog false s.h.get s.h.n .min [3,3] [R s 23,R s 24]) (O 50 Qj 3):=oR
theorem zTX:O 50 Qj 3 s=Zbb s (some 26) (some {v:=R s 7}) (O 50 Qj 4):=oR
theorem zTY:O 50 Qj 4 s=Zbb s (some 27) (some {v:=R s 8}) (O 50 Qj 5):=oR
theorem zTZ:O 50 Qj 5 s=Zbb s (some 28) (ZmL Tryz.prog false s.h.get s.h.n .max [3,3] [R s 26,R s 27]) (O 50 Qj 6):=oR
theorem zT0:O 50 Qj 6 s=Zbb s (some 9) (some {v:=R s 25}) (O 50 Qj 7):=oR
theorem zT1:O 50 Qj 7 s=Zbb s (some 10) (some {v:=R s 28}) (O 50 Qj 8):=oR
theorem zT2:O 50 Qj 8 s=some [(.normal,s)]:=qe
def zvP:Code:=ZgE zvO
def zvQ:Code:=ZhX zvO
theorem zLK:C 50 zvO s=thenV (C 50 zvP s) (C 50 zvQ):=qS
def zc4:Code:=ZgE zvP
def zx3:Code:=ZhX zvP
theorem zLL:C 50 zvP s=thenV (C 50 zc4 s) (C 50 zx3):=qS
theorem zLN:C 50 zc4 s=O 50 zc4 0 s:=qG 5
theorem zT3:O 50 zc4 0 s=Zbb s (some 11) (some {v:=(.int .i64 (0))}) (O 50 zc4 1):=oR
theorem zT4:O 50 zc4 1 s=some [(.normal,s)]:=qe
def zkh:Code:=ZgE zx3
theorem zCb:C 50 zx3 s=ZmZ 0 (C 50 zkh s):=qB
def zvR:Code:=ZgE zkh
theorem zLO:C 50 zkh s=thenV (C 50 zvR s) (C 50 zkh):=qL
def zvS:Code:=ZgE zvR
def zvT:Code:=ZhX zvR
theorem zT5:C 50 zvR s=thenV (C 50 zvS s) (C 50 zvT):=qS
def Q9:Code:=ZgE zvS
def zvU:Code:=ZhX zvS
theorem zT6:C 50 zvS s=thenV (C 50 Q9 s) (C 50 zvU):=qS
theorem zUd:C 50 Q9 s=O 50 Q9 0 s:=qG 6
theorem zT8:O 50 Q9 0 s=Zbb s (some 29) (some {v:=R s 11}) (O 50 Q9 1):=oR
theorem zT9:O 50 Q9 1 s=Zbb s (some 30) (some {v:=R s 0}) (O 50 Q9 2):=oR
theorem zUa:O 50 Q9 2 s=Zbb s (some 31) (ZmL Tryz.prog false s.h.get s.h.n .len [27] [R s 30]) (O 50 Q9 3):=oR
theorem zUb:O 50 Q9 3 s=Zbb s (some 32) (val (ZmJ Tryz.prog .lss 3 false false (R s 29) (R s 31))) (O 50 Q9 4):=oR
theorem zUc:O 50 Q9 4 s=some [(.normal,s)]:=qe
def zCc:Code:=ZgE zvU
def zCd:Code:=ZhX zvU
theorem zUe:C 50 zvU s=ZmY (R s 32) (C 50 zCc) (C 50 zCd) s:=qC
theorem zUf:C 50 zCc s=some [(.normal,s)]:=qK
theorem zUg:C 50 zCd s=some [(.exit 0,s)]:=qE
def zx4:Code:=ZgE zvT
def zaQ:Code:=ZhX zvT
theorem zT7:C 50 zvT s=thenV (C 50 zx4 s) (C 50 zaQ):=qS
def zvV:Code:=ZgE zx4
theorem zUh:C 50 zx4 s=ZmZ 1 (C 50 zvV s):=qB
def QB:Code:=ZgE zvV
def zvX:Code:=ZhX zvV
theorem zUn:C 50 zvV s=thenV (C 50 QB s) (C 50 zvX):=qS
theorem zUv:C 50 QB s=O 50 QB 0 s:=qG 8
theorem zUo:O 50 QB 0 s=Zbb s (some 35) (some {v:=R s 0}) (O 50 QB 1):=oR
theorem zUp:O 50 QB 1 s=Zbb s (some 36) (some {v:=R s 11}) (O 50 QB 2):=oR
theorem zUq:O 50 QB 2 s=Zbb s (some 37) (val (indexAddr Tryz.prog 27 (R s 35) (R s 36))) (O 50 QB 3):=oR
theorem zUr:O 50 QB 3 s=Zbb s (some 38) (Zi3 Tryz.prog 3 s.h.get (R s 37)) (O 50 QB 4):=oR
theorem zUs:O 50 QB 4 s=Zbb s (some 39) (some {v:=R s 10}) (O 50 QB 5):=oR
theorem zUt:O 50 QB 5 s=Zbb s (some 40) (val (ZmJ Tryz.prog .eql 3 false false (R s 38) (R s 39))) (O 50 QB 6):=oR
theorem zUu:O 50 QB 6 s=some [(.normal,s)]:=qe
def QQ:Code:=ZgE zvX
def zCe:Code:=ZhX zvX
theorem zUH:C 50 zvX s=ZmY (R s 40) (C 50 QQ) (C 50 zCe) s:=qC
theorem zUO:C 50 QQ s=O 50 QQ 0 s:=qG 9
theorem zUI:O 50 QQ 0 s=Zbb s (some 41) (some {v:=R s 0}) (O 50 QQ 1):=oR
theorem zUJ:O 50 QQ 1 s=Zbb s (some 42) (some {v:=R s 11}) (O 50 QQ 2):=oR
theorem zUK:O 50 QQ 2 s=Zbb s (some 43) (some {v:=R s 9}) (O 50 QQ 3):=oR
theorem zUL:O 50 QQ 3 s=Zbb s (some 44) (val (indexAddr Tryz.prog 27 (R s 41) (R s 42))) (O 50 QQ 4):=oR
theorem zUM:O 50 QQ 4 s=Zbb s none (ZnB Tryz.prog 3 s.h.get (R s 44) (R s 43)) (O 50 QQ 5):=oR
theorem zUN:O 50 QQ 5 s=some [(.normal,s)]:=qe
theorem zUP:C 50 zCe s=some [(.normal,s)]:=qK
theorem zUm:C 50 zaQ s=O 50 zaQ 0 s:=qG 7
theorem zUi:O 50 zaQ 0 s=Zbb s (some 33) (some {v:=R s 11}) (O 50 zaQ 1):=oR
theorem zUj:O 50 zaQ 1 s=Zbb s (some 34) (val (ZmJ Tryz.prog .add 3 false true (R s 33) (.int .i64 (1)))) (O 50 zaQ 2):=oR
theorem zUk:O 50 zaQ 2 s=Zbb s (some 11) (some {v:=R s 34}) (O 50 zaQ 3):=oR
theorem zUl:O 50 zaQ 3 s=some [(.normal,s)]:=qe
def zc5:Code:=ZgE zvQ
def zCf:Code:=ZhX zvQ
theorem zLM:C 50 zvQ s=thenV (C 50 zc5 s) (C 50 zCf):=qS
theorem zLT:C 50 zc5 s=O 50 zc5 0 s:=qG 10
theorem zLR:O 50 zc5 0 s=Zbb s (some 6) (some {v:=(.bool true)}) (O 50 zc5 1):=oR
theorem zLS:O 50 zc5 1 s=some [(.normal,s)]:=qe
theorem zLU:C 50 zCf s=some [(.ret,s)]:=qR
end
end
end Go.Proofs.YtdlaladdeelegaaGreat.Cg
end
