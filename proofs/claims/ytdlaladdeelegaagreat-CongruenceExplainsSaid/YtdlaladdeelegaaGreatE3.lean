/- Equations of the code. -/
import Derived.Test.YtdlaladdeelegaaGreatE2
import Derived.KernelRfl
set_option linter.all false
noncomputable section
namespace Go.Proofs.YtdlaladdeelegaaGreat.Cg
section
open Go Go.Ae
section
variable (dn:List (Nat×Foot)) (s:St)
def k5:Code:=Tryz.f5.body.getD .skip
end
section
variable (dn:List (Nat×Foot)) (s:St)
def k6:Code:=Tryz.f6.body.getD .skip
end
section
variable (dn:List (Nat×Foot)) (s:St)
def k13:Code:=Tryz.f13.body.getD .skip
theorem Zw6 (args:List V) (ha:args.length≤92) (h:H):(EV Tryz.prog hs ks).call 13 args h=Zm1 Tryz.prog hs ks Tryz.f13 (C 13 k13 (S 92 (ZCl args 0 fun _=> ZmM) [] h)):=Qu Tryz.func13 (by kernel_rfl) (by kernel_rfl) (by decide) rfl ha h
theorem ZmG (f:Nat→V) (h:H):Zm1 Tryz.prog hs ks Tryz.f13 (some [(.ret,S 92 f [] h)])=ZCp (ZCk Tryz.prog (S 92 f [] h) [.tmp 10,.tmp 11,.tmp 12]) h:=Zc (by kernel_rfl) (Or.inl rfl) _ _
def Zhr:Code:=ZgE k13
def ZjT:Code:=ZhX k13
theorem ZmF:C 13 k13 s=thenV (C 13 Zhr s) (C 13 ZjT):=qS
theorem ZuB:C 13 Zhr s=O 13 Zhr 0 s:=qG 0
theorem Zux:O 13 Zhr 0 s=Zbb s (some 10) (some {v:=(.nils)}) (O 13 Zhr 1):=oR
theorem Zuy:O 13 Zhr 1 s=Zbb s (some 11) (some {v:=(.bool false)}) (O 13 Zhr 2):=oR
theorem Zuz:O 13 Zhr 2 s=Zbb s (some 12) (some {v:=(.int .i64 (0))}) (O 13 Zhr 3):=oR
theorem ZuA:O 13 Zhr 3 s=some [(.normal,s)]:=qe
def Zj0:Code:=ZgE ZjT
def Zkb:Code:=ZhX ZjT
theorem ZiF:C 13 ZjT s=thenV (C 13 Zj0 s) (C 13 Zkb):=qS
def ZgZ:Code:=ZgE Zj0
def Zkt:Code:=ZhX Zj0
theorem Zin:C 13 Zj0 s=thenV (C 13 ZgZ s) (C 13 Zkt):=qS
theorem Zwl:C 13 ZgZ s=O 13 ZgZ 0 s:=qG 1
theorem Zwf:O 13 ZgZ 0 s=Zbb s (some 19) (some {v:=R s 0}) (O 13 ZgZ 1):=oR
theorem Zwg:O 13 ZgZ 1 s=Zbb s (some 20) (some {v:=R s 1}) (O 13 ZgZ 2):=oR
theorem Zwh:O 13 ZgZ 2 s=Zbb s (some 21) (some {v:=R s 2}) (O 13 ZgZ 3):=oR
theorem Zwi:O 13 ZgZ 3 s=ZCo (some 22) s (ZCi Tryz.prog hs ks 25 [R s 19,R s 20,R s 21] s.h) (O 13 ZgZ 4):=cR
theorem Zwj:O 13 ZgZ 4 s=Zbb s (some 13) (some {v:=R s 22}) (O 13 ZgZ 5):=oR
theorem Zwk:O 13 ZgZ 5 s=some [(.normal,s)]:=qe
def ZhI:Code:=ZgE Zkt
def ZkN:Code:=ZhX Zkt
theorem Zio:C 13 Zkt s=thenV (C 13 ZhI s) (C 13 ZkN):=qS
theorem ZwV:C 13 ZhI s=O 13 ZhI 0 s:=qG 2
theorem ZwS:O 13 ZhI 0 s=Zbb s (some 23) (some {v:=R s 13}) (O 13 ZhI 1):=oR
theorem ZwT:O 13 ZhI 1 s=Zbb s (some 24) (val (ZmJ Tryz.prog .neq 3 false true (R s 23) (.int .i64 (0)))) (O 13 ZhI 2):=oR
theorem ZwU:O 13 ZhI 2 s=some [(.normal,s)]:=qe
def ZkO:Code:=ZgE ZkN
def ZqP:Code:=ZhX ZkN
theorem Zw3:C 13 ZkN s=ZmY (R s 24) (C 13 ZkO) (C 13 ZqP) s:=qC
def Zg7:Code:=ZgE ZkO
def ZqE:Code:=ZhX ZkO
theorem Zw4:C 13 ZkO s=thenV (C 13 Zg7 s) (C 13 ZqE):=qS
theorem ZuH:C 13 Zg7 s=O 13 Zg7 0 s:=qG 3
theorem ZuC:O 13 Zg7 0 s=Zbb s (some 25) (some {v:=R s 13}) (O 13 Zg7 1):=oR
theorem ZuD:O 13 Zg7 1 s=Zbb s (some 10) (some {v:=(.nils)}) (O 13 Zg7 2):=oR
theorem ZuE:O 13 Zg7 2 s=Zbb s (some 11) (some {v:=(.bool false)}) (O 13 Zg7 3):=oR
theorem ZuF:O 13 Zg7 3 s=Zbb s (some 12) (some {v:=R s 25}) (O 13 Zg7 4):=oR
theorem ZuG:O 13 Zg7 4 s=some [(.normal,s)]:=qe
theorem ZuI:C 13 ZqE s=some [(.ret,s)]:=qR
theorem Zw5:C 13 ZqP s=some [(.normal,s)]:=qK
def ZgY:Code:=ZgE Zkb
def ZjU:Code:=ZhX Zkb
theorem ZiI:C 13 Zkb s=thenV (C 13 ZgY s) (C 13 ZjU):=qS
theorem ZhT:C 13 ZgY s=O 13 ZgY 0 s:=qG 4
theorem ZuJ:O 13 ZgY 0 s=Zbb s (some 26) (some {v:=R s 0}) (O 13 ZgY 1):=oR
theorem ZuK:O 13 ZgY 1 s=Zbb s (some 27) (some {v:=R s 1}) (O 13 ZgY 2):=oR
theorem ZuL:O 13 ZgY 2 s=Zbb s (some 28) (ZmL Tryz.prog false s.h.get s.h.n .len [22] [R s 27]) (O 13 ZgY 3):=oR
theorem ZuM:O 13 ZgY 3 s=Zbb s (some 29) (val (ZmJ Tryz.prog .add 3 false false (R s 26) (R s 28))) (O 13 ZgY 4):=oR
theorem ZuN:O 13 ZgY 4 s=Zbb s (some 14) (some {v:=R s 29}) (O 13 ZgY 5):=oR
theorem ZuO:O 13 ZgY 5 s=some [(.normal,s)]:=qe
def ZjV:Code:=ZgE ZjU
def ZjW:Code:=ZhX ZjU
theorem ZhU:C 13 ZjU s=thenV (C 13 ZjV s) (C 13 ZjW):=qS
def Zbc:Code:=ZgE ZjV
def ZjY:Code:=ZhX ZjV
theorem ZhV:C 13 ZjV s=thenV (C 13 Zbc s) (C 13 ZjY):=qS
theorem Zu6:C 13 Zbc s=O 13 Zbc 0 s:=qG 5
theorem ZuP:O 13 Zbc 0 s=Zbb s (some 30) (some {v:=R s 3}) (O 13 Zbc 1):=oR
theorem ZuQ:O 13 Zbc 1 s=Zbb s (some 31) (val (ZmJ Tryz.prog .lss 3 false true (R s 30) (.int .i64 (0)))) (O 13 Zbc 2):=oR
theorem ZuY:O 13 Zbc 2 s=Zbb s (some 32) (some {v:=R s 31}) (O 13 Zbc 3):=oR
theorem ZuZ:O 13 Zbc 3 s=if Zmx (R s 32) false=true then Zbb s (some 33) (some {v:=R s 3}) (O 13 Zbc 4) else O 13 Zbc 4 (ZmH s (some 33)):=oI
theorem Zu0:O 13 Zbc 4 s=if Zmx (R s 32) false=true then Zbb s (some 34) (some {v:=R s 14}) (O 13 Zbc 5) else O 13 Zbc 5 (ZmH s (some 34)):=oI
theorem Zu1:O 13 Zbc 5 s=if Zmx (R s 32) false=true then Zbb s (some 35) (val (ZmJ Tryz.prog .geq 3 false false (R s 33) (R s 34))) (O 13 Zbc 6) else O 13 Zbc 6 (ZmH s (some 35)):=oI
theorem Zu2:O 13 Zbc 6 s=Zbb s (some 36) (ZCE (R s 32) (.bool true) (R s 35)) (O 13 Zbc 7):=oR
theorem Zu3:O 13 Zbc 7 s=Zbb s (some 37) (some {v:=R s 36}) (O 13 Zbc 8):=oR
theorem Zu4:O 13 Zbc 8 s=if Zmx (R s 37) false=true then Zbb s (some 38) (some {v:=R s 4}) (O 13 Zbc 9) else O 13 Zbc 9 (ZmH s (some 38)):=oI
theorem Zu5:O 13 Zbc 9 s=if Zmx (R s 37) false=true then Zbb s (some 39) (val (ZmJ Tryz.prog .lss 3 false true (R s 38) (.int .i64 (0)))) (O 13 Zbc 10) else O 13 Zbc 10 (ZmH s (some 39)):=oI
theorem ZuR:O 13 Zbc 10 s=Zbb s (some 40) (ZCE (R s 37) (.bool true) (R s 39)) (O 13 Zbc 11):=oR
theorem ZuS:O 13 Zbc 11 s=Zbb s (some 41) (some {v:=R s 40}) (O 13 Zbc 12):=oR
theorem ZuT:O 13 Zbc 12 s=if Zmx (R s 41) false=true then Zbb s (some 42) (some {v:=R s 4}) (O 13 Zbc 13) else O 13 Zbc 13 (ZmH s (some 42)):=oI
theorem ZuU:O 13 Zbc 13 s=if Zmx (R s 41) false=true then Zbb s (some 43) (some {v:=R s 14}) (O 13 Zbc 14) else O 13 Zbc 14 (ZmH s (some 43)):=oI
theorem ZuV:O 13 Zbc 14 s=if Zmx (R s 41) false=true then Zbb s (some 44) (val (ZmJ Tryz.prog .geq 3 false false (R s 42) (R s 43))) (O 13 Zbc 15) else O 13 Zbc 15 (ZmH s (some 44)):=oI
theorem ZuW:O 13 Zbc 15 s=Zbb s (some 45) (ZCE (R s 41) (.bool true) (R s 44)) (O 13 Zbc 16):=oR
theorem ZuX:O 13 Zbc 16 s=some [(.normal,s)]:=qe
def ZjZ:Code:=ZgE ZjY
def ZqF:Code:=ZhX ZjY
theorem Zu7:C 13 ZjY s=ZmY (R s 45) (C 13 ZjZ) (C 13 ZqF) s:=qC
def Zhs:Code:=ZgE ZjZ
def ZqG:Code:=ZhX ZjZ
theorem Zu8:C 13 ZjZ s=thenV (C 13 Zhs s) (C 13 ZqG):=qS
theorem Zve:C 13 Zhs s=O 13 Zhs 0 s:=qG 6
theorem Zva:O 13 Zhs 0 s=Zbb s (some 10) (some {v:=(.nils)}) (O 13 Zhs 1):=oR
theorem Zvb:O 13 Zhs 1 s=Zbb s (some 11) (some {v:=(.bool false)}) (O 13 Zhs 2):=oR
theorem Zvc:O 13 Zhs 2 s=Zbb s (some 12) (some {v:=(.int .i64 (2))}) (O 13 Zhs 3):=oR
theorem Zvd:O 13 Zhs 3 s=some [(.normal,s)]:=qe
theorem Zvf:C 13 ZqG s=some [(.ret,s)]:=qR
theorem Zu9:C 13 ZqF s=some [(.normal,s)]:=qK
def Zg8:Code:=ZgE ZjW
def Zj2:Code:=ZhX ZjW
theorem ZjX:C 13 ZjW s=thenV (C 13 Zg8 s) (C 13 Zj2):=qS
theorem Zj1:C 13 Zg8 s=O 13 Zg8 0 s:=qG 7
theorem Zvg:O 13 Zg8 0 s=Zbb s (some 46) (some {v:=R s 2}) (O 13 Zg8 1):=oR
theorem Zvh:O 13 Zg8 1 s=Zbb s (some 47) (ZmL Tryz.prog false s.h.get s.h.n .len [22] [R s 46]) (O 13 Zg8 2):=oR
theorem Zvi:O 13 Zg8 2 s=ZCo (some 48) s (ZCi Tryz.prog hs ks 27 [R s 47] s.h) (O 13 Zg8 3):=cR
theorem Zvj:O 13 Zg8 3 s=Zbb s (some 15) (some {v:=R s 48}) (O 13 Zg8 4):=oR
theorem Zvk:O 13 Zg8 4 s=some [(.normal,s)]:=qe
def Zj4:Code:=ZgE Zj2
def Zj5:Code:=ZhX Zj2
theorem Zj3:C 13 Zj2 s=thenV (C 13 Zj4 s) (C 13 Zj5):=qS
def ZgK:Code:=ZgE Zj4
def Zj8:Code:=ZhX Zj4
theorem ZiG:C 13 Zj4 s=thenV (C 13 ZgK s) (C 13 Zj8):=qS
theorem Zj7:C 13 ZgK s=O 13 ZgK 0 s:=qG 8
theorem Zvl:O 13 ZgK 0 s=Zbb s (some 49) (some {v:=R s 0}) (O 13 ZgK 1):=oR
theorem Zvm:O 13 ZgK 1 s=Zbb s (some 50) (some {v:=R s 1}) (O 13 ZgK 2):=oR
theorem Zvn:O 13 ZgK 2 s=Zbb s (some 51) (some {v:=R s 2}) (O 13 ZgK 3):=oR
theorem Zvo:O 13 ZgK 3 s=Zbb s (some 52) (some {v:=R s 15}) (O 13 ZgK 4):=oR
theorem Zvp:O 13 ZgK 4 s=Zbb s (some 53) (some {v:=R s 3}) (O 13 ZgK 5):=oR
theorem Zvq:O 13 ZgK 5 s=Zbb s (some 54) (some {v:=R s 4}) (O 13 ZgK 6):=oR
theorem Zvr:O 13 ZgK 6 s=ZCo (some 55) s (ZCi Tryz.prog hs ks 14 [R s 49,R s 50,R s 51,R s 52,R s 53,R s 54] s.h) (O 13 ZgK 7):=cR
theorem Zvs:O 13 ZgK 7 s=Zbb s (some 56) (xUn .not (R s 55)) (O 13 ZgK 8):=oR
theorem Zvt:O 13 ZgK 8 s=some [(.normal,s)]:=qe
def Zka:Code:=ZgE Zj8
def ZqH:Code:=ZhX Zj8
theorem Zj9:C 13 Zj8 s=ZmY (R s 56) (C 13 Zka) (C 13 ZqH) s:=qC
def Zht:Code:=ZgE Zka
def ZqI:Code:=ZhX Zka
theorem Zvu:C 13 Zka s=thenV (C 13 Zht s) (C 13 ZqI):=qS
theorem ZvA:C 13 Zht s=O 13 Zht 0 s:=qG 9
theorem Zvw:O 13 Zht 0 s=Zbb s (some 10) (some {v:=(.nils)}) (O 13 Zht 1):=oR
theorem Zvx:O 13 Zht 1 s=Zbb s (some 11) (some {v:=(.bool false)}) (O 13 Zht 2):=oR
theorem Zvy:O 13 Zht 2 s=Zbb s (some 12) (some {v:=(.int .i64 (0))}) (O 13 Zht 3):=oR
theorem Zvz:O 13 Zht 3 s=some [(.normal,s)]:=qe
theorem ZvB:C 13 ZqI s=some [(.ret,s)]:=qR
theorem Zvv:C 13 ZqH s=some [(.normal,s)]:=qK
def Zkc:Code:=ZgE Zj5
def Zke:Code:=ZhX Zj5
theorem Zj6:C 13 Zj5 s=thenV (C 13 Zkc s) (C 13 Zke):=qS
def Zh6:Code:=ZgE Zkc
def ZmB:Code:=ZhX Zkc
theorem Zkd:C 13 Zkc s=thenV (C 13 Zh6 s) (C 13 ZmB):=qS
theorem ZvE:C 13 Zh6 s=O 13 Zh6 0 s:=qG 10
theorem ZvC:O 13 Zh6 0 s=Zbb s (some 16) (some {v:=(.int .i64 (0))}) (O 13 Zh6 1):=oR
theorem ZvD:O 13 Zh6 1 s=some [(.normal,s)]:=qe
def ZiH:Code:=ZgE ZmB
theorem Zkg:C 13 ZmB s=ZmZ 0 (C 13 ZiH s):=qB
def Zkh:Code:=ZgE ZiH
theorem ZvF:C 13 ZiH s=thenV (C 13 Zkh s) (C 13 ZiH):=qL
def Zki:Code:=ZgE Zkh
def Zkj:Code:=ZhX Zkh
theorem ZvG:C 13 Zkh s=thenV (C 13 Zki s) (C 13 Zkj):=qS
def Zg9:Code:=ZgE Zki
def Zkl:Code:=ZhX Zki
theorem ZvH:C 13 Zki s=thenV (C 13 Zg9 s) (C 13 Zkl):=qS
theorem ZvN:C 13 Zg9 s=O 13 Zg9 0 s:=qG 11
theorem ZvI:O 13 Zg9 0 s=Zbb s (some 57) (some {v:=R s 16}) (O 13 Zg9 1):=oR
theorem ZvJ:O 13 Zg9 1 s=Zbb s (some 58) (some {v:=R s 2}) (O 13 Zg9 2):=oR
theorem ZvK:O 13 Zg9 2 s=Zbb s (some 59) (ZmL Tryz.prog false s.h.get s.h.n .len [22] [R s 58]) (O 13 Zg9 3):=oR
theorem ZvL:O 13 Zg9 3 s=Zbb s (some 60) (val (ZmJ Tryz.prog .lss 3 false false (R s 57) (R s 59))) (O 13 Zg9 4):=oR
theorem ZvM:O 13 Zg9 4 s=some [(.normal,s)]:=qe
def ZqJ:Code:=ZgE Zkl
def ZqK:Code:=ZhX Zkl
theorem ZvO:C 13 Zkl s=ZmY (R s 60) (C 13 ZqJ) (C 13 ZqK) s:=qC
theorem ZvP:C 13 ZqJ s=some [(.normal,s)]:=qK
theorem ZvQ:C 13 ZqK s=some [(.exit 0,s)]:=qE
def ZmC:Code:=ZgE Zkj
def Zhu:Code:=ZhX Zkj
theorem Zkk:C 13 Zkj s=thenV (C 13 ZmC s) (C 13 Zhu):=qS
def Zko:Code:=ZgE ZmC
theorem Zkm:C 13 ZmC s=ZmZ 1 (C 13 Zko s):=qB
def Zha:Code:=ZgE Zko
def ZgA:Code:=ZhX Zko
theorem Zkp:C 13 Zko s=thenV (C 13 Zha s) (C 13 ZgA):=qS
theorem Zkq:C 13 Zha s=O 13 Zha 0 s:=qG 13
theorem ZvV:O 13 Zha 0 s=Zbb s (some 63) (some {v:=R s 15}) (O 13 Zha 1):=oR
theorem ZvW:O 13 Zha 1 s=Zbb s (some 64) (some {v:=R s 16}) (O 13 Zha 2):=oR
theorem ZvX:O 13 Zha 2 s=Zbb s (some 65) (val (indexAddr Tryz.prog 39 (R s 63) (R s 64))) (O 13 Zha 3):=oR
theorem ZvY:O 13 Zha 3 s=Zbb s none (ZnB Tryz.prog 4 s.h.get (R s 65) (.bool false)) (O 13 Zha 4):=oR
theorem ZvZ:O 13 Zha 4 s=some [(.normal,s)]:=qe
theorem Zkr:C 13 ZgA s=O 13 ZgA 0 s:=qG 14
theorem Zv0:O 13 ZgA 0 s=Zbb s (some 66) (some {v:=R s 15}) (O 13 ZgA 1):=oR
theorem Zv1:O 13 ZgA 1 s=Zbb s (some 67) (some {v:=R s 16}) (O 13 ZgA 2):=oR
theorem Zv5:O 13 ZgA 2 s=Zbb s (some 68) (some {v:=R s 0}) (O 13 ZgA 3):=oR
theorem Zv6:O 13 ZgA 3 s=Zbb s (some 69) (some {v:=R s 1}) (O 13 ZgA 4):=oR
theorem Zv7:O 13 ZgA 4 s=Zbb s (some 70) (some {v:=R s 2}) (O 13 ZgA 5):=oR
theorem Zv8:O 13 ZgA 5 s=Zbb s (some 71) (some {v:=R s 15}) (O 13 ZgA 6):=oR
theorem Zv9:O 13 ZgA 6 s=Zbb s (some 72) (some {v:=R s 3}) (O 13 ZgA 7):=oR
theorem Zwa:O 13 ZgA 7 s=Zbb s (some 73) (some {v:=R s 4}) (O 13 ZgA 8):=oR
theorem Zwb:O 13 ZgA 8 s=ZCo (some 74) s (ZCi Tryz.prog hs ks 14 [R s 68,R s 69,R s 70,R s 71,R s 72,R s 73] s.h) (O 13 ZgA 9):=cR
theorem Zwc:O 13 ZgA 9 s=Zbb s (some 75) (xUn .not (R s 74)) (O 13 ZgA 10):=oR
theorem Zv2:O 13 ZgA 10 s=Zbb s (some 76) (val (indexAddr Tryz.prog 39 (R s 66) (R s 67))) (O 13 ZgA 11):=oR
theorem Zv3:O 13 ZgA 11 s=Zbb s none (ZnB Tryz.prog 4 s.h.get (R s 76) (R s 75)) (O 13 ZgA 12):=oR
theorem Zv4:O 13 ZgA 12 s=some [(.normal,s)]:=qe
theorem Zkn:C 13 Zhu s=O 13 Zhu 0 s:=qG 12
theorem ZvR:O 13 Zhu 0 s=Zbb s (some 61) (some {v:=R s 16}) (O 13 Zhu 1):=oR
theorem ZvS:O 13 Zhu 1 s=Zbb s (some 62) (val (ZmJ Tryz.prog .add 3 false true (R s 61) (.int .i64 (1)))) (O 13 Zhu 2):=oR
theorem ZvT:O 13 Zhu 2 s=Zbb s (some 16) (some {v:=R s 62}) (O 13 Zhu 3):=oR
theorem ZvU:O 13 Zhu 3 s=some [(.normal,s)]:=qe
def Zh7:Code:=ZgE Zke
def Zku:Code:=ZhX Zke
theorem Zkf:C 13 Zke s=thenV (C 13 Zh7 s) (C 13 Zku):=qS
theorem Zks:C 13 Zh7 s=O 13 Zh7 0 s:=qG 15
theorem Zwd:O 13 Zh7 0 s=Zbb s (some 17) (some {v:=(.nils)}) (O 13 Zh7 1):=oR
theorem Zwe:O 13 Zh7 1 s=some [(.normal,s)]:=qe
def Zkw:Code:=ZgE Zku
def Zky:Code:=ZhX Zku
theorem Zkv:C 13 Zku s=thenV (C 13 Zkw s) (C 13 Zky):=qS
def Zh8:Code:=ZgE Zkw
def ZmD:Code:=ZhX Zkw
theorem Zkx:C 13 Zkw s=thenV (C 13 Zh8 s) (C 13 ZmD):=qS
theorem Zwo:C 13 Zh8 s=O 13 Zh8 0 s:=qG 16
theorem Zwm:O 13 Zh8 0 s=Zbb s (some 18) (some {v:=(.int .i64 (0))}) (O 13 Zh8 1):=oR
theorem Zwn:O 13 Zh8 1 s=some [(.normal,s)]:=qe
def ZiJ:Code:=ZgE ZmD
theorem ZkA:C 13 ZmD s=ZmZ 2 (C 13 ZiJ s):=qB
def ZkB:Code:=ZgE ZiJ
theorem Zwp:C 13 ZiJ s=thenV (C 13 ZkB s) (C 13 ZiJ):=qL
def ZkC:Code:=ZgE ZkB
def ZkD:Code:=ZhX ZkB
theorem Zwq:C 13 ZkB s=thenV (C 13 ZkC s) (C 13 ZkD):=qS
def Zhb:Code:=ZgE ZkC
def ZkF:Code:=ZhX ZkC
theorem Zwr:C 13 ZkC s=thenV (C 13 Zhb s) (C 13 ZkF):=qS
theorem Zwx:C 13 Zhb s=O 13 Zhb 0 s:=qG 17
theorem Zws:O 13 Zhb 0 s=Zbb s (some 77) (some {v:=R s 18}) (O 13 Zhb 1):=oR
theorem Zwt:O 13 Zhb 1 s=Zbb s (some 78) (some {v:=R s 2}) (O 13 Zhb 2):=oR
theorem Zwu:O 13 Zhb 2 s=Zbb s (some 79) (ZmL Tryz.prog false s.h.get s.h.n .len [22] [R s 78]) (O 13 Zhb 3):=oR
theorem Zwv:O 13 Zhb 3 s=Zbb s (some 80) (val (ZmJ Tryz.prog .lss 3 false false (R s 77) (R s 79))) (O 13 Zhb 4):=oR
theorem Zww:O 13 Zhb 4 s=some [(.normal,s)]:=qe
def ZqL:Code:=ZgE ZkF
def ZqM:Code:=ZhX ZkF
theorem Zwy:C 13 ZkF s=ZmY (R s 80) (C 13 ZqL) (C 13 ZqM) s:=qC
theorem Zwz:C 13 ZqL s=some [(.normal,s)]:=qK
theorem ZwA:C 13 ZqM s=some [(.exit 2,s)]:=qE
def ZmE:Code:=ZgE ZkD
def Zhv:Code:=ZhX ZkD
theorem ZkE:C 13 ZkD s=thenV (C 13 ZmE s) (C 13 Zhv):=qS
def ZkI:Code:=ZgE ZmE
theorem ZkG:C 13 ZmE s=ZmZ 3 (C 13 ZkI s):=qB
def Zhc:Code:=ZgE ZkI
def ZkK:Code:=ZhX ZkI
theorem ZkJ:C 13 ZkI s=thenV (C 13 Zhc s) (C 13 ZkK):=qS
theorem ZwK:C 13 Zhc s=O 13 Zhc 0 s:=qG 19
theorem ZwF:O 13 Zhc 0 s=Zbb s (some 83) (some {v:=R s 15}) (O 13 Zhc 1):=oR
theorem ZwG:O 13 Zhc 1 s=Zbb s (some 84) (some {v:=R s 18}) (O 13 Zhc 2):=oR
theorem ZwH:O 13 Zhc 2 s=Zbb s (some 85) (val (indexAddr Tryz.prog 39 (R s 83) (R s 84))) (O 13 Zhc 3):=oR
theorem ZwI:O 13 Zhc 3 s=Zbb s (some 86) (Zi3 Tryz.prog 4 s.h.get (R s 85)) (O 13 Zhc 4):=oR
theorem ZwJ:O 13 Zhc 4 s=some [(.normal,s)]:=qe
def Zg0:Code:=ZgE ZkK
def ZqN:Code:=ZhX ZkK
theorem ZkL:C 13 ZkK s=ZmY (R s 86) (C 13 Zg0) (C 13 ZqN) s:=qC
theorem ZkM:C 13 Zg0 s=O 13 Zg0 0 s:=qG 20
theorem ZwL:O 13 Zg0 0 s=Zbb s (some 87) (some {v:=R s 17}) (O 13 Zg0 1):=oR
theorem ZwM:O 13 Zg0 1 s=Zbb s (some 88) (some {v:=R s 18}) (O 13 Zg0 2):=oR
theorem ZwN:O 13 Zg0 2 s=Zbb s (some 89) (ZDl Tryz.prog false 27 1 [(0,(R s 88))] s.h.n) (O 13 Zg0 3):=oR
theorem ZwO:O 13 Zg0 3 s=Zbb s (some 90) (ZmL Tryz.prog false s.h.get s.h.n .append [27,27] [R s 87,R s 89]) (O 13 Zg0 4):=oR
theorem ZwP:O 13 Zg0 4 s=Zbb s (some 17) (some {v:=R s 90}) (O 13 Zg0 5):=oR
theorem ZwQ:O 13 Zg0 5 s=some [(.normal,s)]:=qe
theorem ZwR:C 13 ZqN s=some [(.normal,s)]:=qK
theorem ZkH:C 13 Zhv s=O 13 Zhv 0 s:=qG 18
theorem ZwB:O 13 Zhv 0 s=Zbb s (some 81) (some {v:=R s 18}) (O 13 Zhv 1):=oR
theorem ZwC:O 13 Zhv 1 s=Zbb s (some 82) (val (ZmJ Tryz.prog .add 3 false true (R s 81) (.int .i64 (1)))) (O 13 Zhv 2):=oR
theorem ZwD:O 13 Zhv 2 s=Zbb s (some 18) (some {v:=R s 82}) (O 13 Zhv 3):=oR
theorem ZwE:O 13 Zhv 3 s=some [(.normal,s)]:=qe
def Zhd:Code:=ZgE Zky
def ZqO:Code:=ZhX Zky
theorem Zkz:C 13 Zky s=thenV (C 13 Zhd s) (C 13 ZqO):=qS
theorem Zw1:C 13 Zhd s=O 13 Zhd 0 s:=qG 21
theorem ZwW:O 13 Zhd 0 s=Zbb s (some 91) (some {v:=R s 17}) (O 13 Zhd 1):=oR
theorem ZwX:O 13 Zhd 1 s=Zbb s (some 10) (some {v:=R s 91}) (O 13 Zhd 2):=oR
theorem ZwY:O 13 Zhd 2 s=Zbb s (some 11) (some {v:=(.bool true)}) (O 13 Zhd 3):=oR
theorem ZwZ:O 13 Zhd 3 s=Zbb s (some 12) (some {v:=(.int .i64 (0))}) (O 13 Zhd 4):=oR
theorem Zw0:O 13 Zhd 4 s=some [(.normal,s)]:=qe
theorem Zw2:C 13 ZqO s=some [(.ret,s)]:=qR
def k14:Code:=Tryz.f14.body.getD .skip
theorem ZBr (args:List V) (ha:args.length≤28) (h:H):(EV Tryz.prog hs ks).call 14 args h=Zm1 Tryz.prog hs ks Tryz.f14 (C 14 k14 (S 28 (ZCl args 0 fun _=> ZmM) [] h)):=Qu Tryz.func14 (by kernel_rfl) (by kernel_rfl) (by decide) rfl ha h
theorem ZBs (f:Nat→V) (h:H):Zm1 Tryz.prog hs ks Tryz.f14 (some [(.ret,S 28 f [] h)])=ZCp (ZCk Tryz.prog (S 28 f [] h) [.tmp 12]) h:=Zc (by kernel_rfl) (Or.inl rfl) _ _
def Zh9:Code:=ZgE k14
def ZkP:Code:=ZhX k14
theorem Zw7:C 14 k14 s=thenV (C 14 Zh9 s) (C 14 ZkP):=qS
theorem ZA3:C 14 Zh9 s=O 14 Zh9 0 s:=qG 0
theorem ZA1:O 14 Zh9 0 s=Zbb s (some 12) (some {v:=(.bool false)}) (O 14 Zh9 1):=oR
theorem ZA2:O 14 Zh9 1 s=some [(.normal,s)]:=qe
def ZgT:Code:=ZgE ZkP
def ZkQ:Code:=ZhX ZkP
theorem ZA4:C 14 ZkP s=thenV (C 14 ZgT s) (C 14 ZkQ):=qS
theorem ZBc:C 14 ZgT s=O 14 ZgT 0 s:=qG 1
theorem ZA5:O 14 ZgT 0 s=Zbb s (some 14) (some {v:=R s 0}) (O 14 ZgT 1):=oR
theorem ZA6:O 14 ZgT 1 s=Zbb s (some 15) (some {v:=R s 1}) (O 14 ZgT 2):=oR
theorem ZA7:O 14 ZgT 2 s=Zbb s (some 16) (some {v:=R s 2}) (O 14 ZgT 3):=oR
theorem ZA8:O 14 ZgT 3 s=Zbb s (some 17) (some {v:=R s 3}) (O 14 ZgT 4):=oR
theorem ZA9:O 14 ZgT 4 s=ZCo (some 18) s (ZCi Tryz.prog hs ks 26 [R s 14,R s 15,R s 16,R s 17] s.h) (O 14 ZgT 5):=cR
theorem ZBa:O 14 ZgT 5 s=Zbb s (some 13) (some {v:=R s 18}) (O 14 ZgT 6):=oR
theorem ZBb:O 14 ZgT 6 s=some [(.normal,s)]:=qe
def ZgC:Code:=ZgE ZkQ
def ZqQ:Code:=ZhX ZkQ
theorem ZBd:C 14 ZkQ s=thenV (C 14 ZgC s) (C 14 ZqQ):=qS
def ZfY:List Nat:=[0,0,3,7,0,0,48,112,255,511]
theorem ZBp:C 14 ZgC s=D 14 ZgC ZfY 0 [] s:=qD 2
theorem ZBe:D 14 ZgC ZfY 0 dn s=ZhW s (some 19) 0 ZfY dn (some {v:=R s 13}) (D 14 ZgC ZfY 1):=dR
theorem ZBf:D 14 ZgC ZfY 1 dn s=ZhW s (some 20) 1 ZfY dn (some {v:=R s 4}) (D 14 ZgC ZfY 2):=dR
theorem ZBh:D 14 ZgC ZfY 2 dn s=ZhW s (some 21) 2 ZfY dn (val (indexAddr Tryz.prog 27 (R s 19) (R s 20))) (D 14 ZgC ZfY 3):=dR
theorem ZBi:D 14 ZgC ZfY 3 dn s=ZhW s (some 22) 3 ZfY dn (Zi3 Tryz.prog 3 s.h.get (R s 21)) (D 14 ZgC ZfY 4):=dR
theorem ZBj:D 14 ZgC ZfY 4 dn s=ZhW s (some 23) 4 ZfY dn (some {v:=R s 13}) (D 14 ZgC ZfY 5):=dR
theorem ZBk:D 14 ZgC ZfY 5 dn s=ZhW s (some 24) 5 ZfY dn (some {v:=R s 5}) (D 14 ZgC ZfY 6):=dR
theorem ZBl:D 14 ZgC ZfY 6 dn s=ZhW s (some 25) 6 ZfY dn (val (indexAddr Tryz.prog 27 (R s 23) (R s 24))) (D 14 ZgC ZfY 7):=dR
theorem ZBm:D 14 ZgC ZfY 7 dn s=ZhW s (some 26) 7 ZfY dn (Zi3 Tryz.prog 3 s.h.get (R s 25)) (D 14 ZgC ZfY 8):=dR
theorem ZBn:D 14 ZgC ZfY 8 dn s=ZhW s (some 27) 8 ZfY dn (val (ZmJ Tryz.prog .eql 3 false false (R s 22) (R s 26))) (D 14 ZgC ZfY 9):=dR
theorem ZBo:D 14 ZgC ZfY 9 dn s=ZhW s (some 12) 9 ZfY dn (some {v:=R s 27}) (D 14 ZgC ZfY 10):=dR
theorem ZBg:D 14 ZgC ZfY 10 dn s=some [(.normal,s)]:=qd
theorem ZBq:C 14 ZqQ s=some [(.ret,s)]:=qR
end
section
variable (dn:List (Nat×Foot)) (s:St)
def k12:Code:=Tryz.f12.body.getD .skip
theorem Zuw (args:List V) (ha:args.length≤107) (h:H):(EV Tryz.prog hs ks).call 12 args h=Zm1 Tryz.prog hs ks Tryz.f12 (C 12 k12 (S 107 (ZCl args 0 fun _=> ZmM) [] h)):=Qu Tryz.func12 (by kernel_rfl) (by kernel_rfl) (by decide) rfl ha h
theorem ZjS (f:Nat→V) (h:H):Zm1 Tryz.prog hs ks Tryz.f12 (some [(.ret,S 107 f [] h)])=ZCp (ZCk Tryz.prog (S 107 f [] h) [.tmp 10,.tmp 11,.tmp 12]) h:=Zc (by kernel_rfl) (Or.inl rfl) _ _
def Zhk:Code:=ZgE k12
def Zi7:Code:=ZhX k12
theorem ZjR:C 12 k12 s=thenV (C 12 Zhk s) (C 12 Zi7):=qS
theorem ZnJ:C 12 Zhk s=O 12 Zhk 0 s:=qG 0
theorem ZnF:O 12 Zhk 0 s=Zbb s (some 10) (some {v:=(.nils)}) (O 12 Zhk 1):=oR
theorem ZnG:O 12 Zhk 1 s=Zbb s (some 11) (some {v:=(.bool false)}) (O 12 Zhk 2):=oR
theorem ZnH:O 12 Zhk 2 s=Zbb s (some 12) (some {v:=(.int .i64 (0))}) (O 12 Zhk 3):=oR
theorem ZnI:O 12 Zhk 3 s=some [(.normal,s)]:=qe
def Zjd:Code:=ZgE Zi7
def Zjj:Code:=ZhX Zi7
theorem Zig:C 12 Zi7 s=thenV (C 12 Zjd s) (C 12 Zjj):=qS
def ZgW:Code:=ZgE Zjd
def Zjt:Code:=ZhX Zjd
theorem Zh1:C 12 Zjd s=thenV (C 12 ZgW s) (C 12 Zjt):=qS
theorem Zpr:C 12 ZgW s=O 12 ZgW 0 s:=qG 1
theorem Zpl:O 12 ZgW 0 s=Zbb s (some 20) (some {v:=R s 0}) (O 12 ZgW 1):=oR
theorem Zpm:O 12 ZgW 1 s=Zbb s (some 21) (some {v:=R s 1}) (O 12 ZgW 2):=oR
theorem Zpn:O 12 ZgW 2 s=Zbb s (some 22) (some {v:=R s 2}) (O 12 ZgW 3):=oR
theorem Zpo:O 12 ZgW 3 s=ZCo (some 23) s (ZCi Tryz.prog hs ks 21 [R s 20,R s 21,R s 22] s.h) (O 12 ZgW 4):=cR
theorem Zpp:O 12 ZgW 4 s=Zbb s (some 13) (some {v:=R s 23}) (O 12 ZgW 5):=oR
theorem Zpq:O 12 ZgW 5 s=some [(.normal,s)]:=qe
def ZhH:Code:=ZgE Zjt
def ZjO:Code:=ZhX Zjt
theorem Zh4:C 12 Zjt s=thenV (C 12 ZhH s) (C 12 ZjO):=qS
theorem Zql:C 12 ZhH s=O 12 ZhH 0 s:=qG 2
theorem Zqi:O 12 ZhH 0 s=Zbb s (some 24) (some {v:=R s 13}) (O 12 ZhH 1):=oR
theorem Zqj:O 12 ZhH 1 s=Zbb s (some 25) (val (ZmJ Tryz.prog .neq 28 false true (R s 24) (.int .i64 (0)))) (O 12 ZhH 2):=oR
theorem Zqk:O 12 ZhH 2 s=some [(.normal,s)]:=qe
def ZjQ:Code:=ZgE ZjO
def ZqC:Code:=ZhX ZjO
theorem ZqA:C 12 ZjO s=ZmY (R s 25) (C 12 ZjQ) (C 12 ZqC) s:=qC
def Zg4:Code:=ZgE ZjQ
def ZnQ:Code:=ZhX ZjQ
theorem ZqB:C 12 ZjQ s=thenV (C 12 Zg4 s) (C 12 ZnQ):=qS
theorem ZnP:C 12 Zg4 s=O 12 Zg4 0 s:=qG 3
theorem ZnK:O 12 Zg4 0 s=Zbb s (some 26) (some {v:=R s 13}) (O 12 Zg4 1):=oR
theorem ZnL:O 12 Zg4 1 s=Zbb s (some 10) (some {v:=(.nils)}) (O 12 Zg4 2):=oR
theorem ZnM:O 12 Zg4 2 s=Zbb s (some 11) (some {v:=(.bool false)}) (O 12 Zg4 3):=oR
theorem ZnN:O 12 Zg4 3 s=Zbb s (some 12) (some {v:=R s 26}) (O 12 Zg4 4):=oR
theorem ZnO:O 12 Zg4 4 s=some [(.normal,s)]:=qe
theorem ZnR:C 12 ZnQ s=some [(.ret,s)]:=qR
theorem ZqD:C 12 ZqC s=some [(.normal,s)]:=qK
def Zi8:Code:=ZgE Zjj
def Zi9:Code:=ZhX Zjj
theorem Zik:C 12 Zjj s=thenV (C 12 Zi8 s) (C 12 Zi9):=qS
def ZgU:Code:=ZgE Zi8
def Zja:Code:=ZhX Zi8
theorem ZhZ:C 12 Zi8 s=thenV (C 12 ZgU s) (C 12 Zja):=qS
theorem ZnY:C 12 ZgU s=O 12 ZgU 0 s:=qG 4
theorem ZnS:O 12 ZgU 0 s=Zbb s (some 27) (some {v:=R s 0}) (O 12 ZgU 1):=oR
theorem ZnT:O 12 ZgU 1 s=Zbb s (some 28) (some {v:=R s 1}) (O 12 ZgU 2):=oR
theorem ZnU:O 12 ZgU 2 s=Zbb s (some 29) (ZmL Tryz.prog false s.h.get s.h.n .len [22] [R s 28]) (O 12 ZgU 3):=oR
theorem ZnV:O 12 ZgU 3 s=Zbb s (some 30) (val (ZmJ Tryz.prog .add 3 false false (R s 27) (R s 29))) (O 12 ZgU 4):=oR
theorem ZnW:O 12 ZgU 4 s=Zbb s (some 14) (some {v:=R s 30}) (O 12 ZgU 5):=oR
theorem ZnX:O 12 ZgU 5 s=some [(.normal,s)]:=qe
def ZfX:Code:=ZgE Zja
def Zjb:Code:=ZhX Zja
theorem Zh0:C 12 Zja s=thenV (C 12 ZfX s) (C 12 Zjb):=qS
theorem Zob:C 12 ZfX s=O 12 ZfX 0 s:=qG 5
theorem ZnZ:O 12 ZfX 0 s=Zbb s (some 31) (some {v:=R s 3}) (O 12 ZfX 1):=oR
theorem Zn0:O 12 ZfX 1 s=Zbb s (some 32) (some {v:=R s 4}) (O 12 ZfX 2):=oR
theorem Zn3:O 12 ZfX 2 s=Zbb s (some 33) (ZmL Tryz.prog false s.h.get s.h.n .min [3,3] [R s 31,R s 32]) (O 12 ZfX 3):=oR
theorem Zn4:O 12 ZfX 3 s=Zbb s (some 34) (val (ZmJ Tryz.prog .lss 3 false true (R s 33) (.int .i64 (0)))) (O 12 ZfX 4):=oR
theorem Zn5:O 12 ZfX 4 s=Zbb s (some 35) (some {v:=R s 34}) (O 12 ZfX 5):=oR
theorem Zn6:O 12 ZfX 5 s=if Zmx (R s 35) false=true then Zbb s (some 36) (some {v:=R s 3}) (O 12 ZfX 6) else O 12 ZfX 6 (ZmH s (some 36)):=oI
theorem Zn7:O 12 ZfX 6 s=if Zmx (R s 35) false=true then Zbb s (some 37) (some {v:=R s 4}) (O 12 ZfX 7) else O 12 ZfX 7 (ZmH s (some 37)):=oI
theorem Zn8:O 12 ZfX 7 s=if Zmx (R s 35) false=true then Zbb s (some 38) (ZmL Tryz.prog false s.h.get s.h.n .max [3,3] [R s 36,R s 37]) (O 12 ZfX 8) else O 12 ZfX 8 (ZmH s (some 38)):=oI
theorem Zn9:O 12 ZfX 8 s=if Zmx (R s 35) false=true then Zbb s (some 39) (some {v:=R s 14}) (O 12 ZfX 9) else O 12 ZfX 9 (ZmH s (some 39)):=oI
theorem Zoa:O 12 ZfX 9 s=if Zmx (R s 35) false=true then Zbb s (some 40) (val (ZmJ Tryz.prog .geq 3 false false (R s 38) (R s 39))) (O 12 ZfX 10) else O 12 ZfX 10 (ZmH s (some 40)):=oI
theorem Zn1:O 12 ZfX 10 s=Zbb s (some 41) (ZCE (R s 35) (.bool true) (R s 40)) (O 12 ZfX 11):=oR
theorem Zn2:O 12 ZfX 11 s=some [(.normal,s)]:=qe
def Zjc:Code:=ZgE Zjb
def Zoe:Code:=ZhX Zjb
theorem Zoc:C 12 Zjb s=ZmY (R s 41) (C 12 Zjc) (C 12 Zoe) s:=qC
def Zhl:Code:=ZgE Zjc
def Zol:Code:=ZhX Zjc
theorem Zod:C 12 Zjc s=thenV (C 12 Zhl s) (C 12 Zol):=qS
theorem Zok:C 12 Zhl s=O 12 Zhl 0 s:=qG 6
theorem Zog:O 12 Zhl 0 s=Zbb s (some 10) (some {v:=(.nils)}) (O 12 Zhl 1):=oR
theorem Zoh:O 12 Zhl 1 s=Zbb s (some 11) (some {v:=(.bool false)}) (O 12 Zhl 2):=oR
theorem Zoi:O 12 Zhl 2 s=Zbb s (some 12) (some {v:=(.int .i64 (2))}) (O 12 Zhl 3):=oR
theorem Zoj:O 12 Zhl 3 s=some [(.normal,s)]:=qe
theorem Zom:C 12 Zol s=some [(.ret,s)]:=qR
theorem Zof:C 12 Zoe s=some [(.normal,s)]:=qK
def ZgV:Code:=ZgE Zi9
def Zje:Code:=ZhX Zi9
theorem Zip:C 12 Zi9 s=thenV (C 12 ZgV s) (C 12 Zje):=qS
theorem Ziq:C 12 ZgV s=O 12 ZgV 0 s:=qG 7
theorem Zon:O 12 ZgV 0 s=Zbb s (some 42) (some {v:=R s 0}) (O 12 ZgV 1):=oR
theorem Zoo:O 12 ZgV 1 s=Zbb s (some 43) (some {v:=R s 1}) (O 12 ZgV 2):=oR
theorem Zop:O 12 ZgV 2 s=Zbb s (some 44) (some {v:=R s 2}) (O 12 ZgV 3):=oR
theorem Zoq:O 12 ZgV 3 s=ZCo (some 45) s (ZCi Tryz.prog hs ks 22 [R s 42,R s 43,R s 44,(.fn (.func 28) [] [])] s.h) (O 12 ZgV 4):=cR
theorem Zor:O 12 ZgV 4 s=Zbb s (some 15) (some {v:=R s 45}) (O 12 ZgV 5):=oR
theorem Zos:O 12 ZgV 5 s=some [(.normal,s)]:=qe
def Zjf:Code:=ZgE Zje
def Zjg:Code:=ZhX Zje
theorem Zir:C 12 Zje s=thenV (C 12 Zjf s) (C 12 Zjg):=qS
def Zbf:Code:=ZgE Zjf
def Zjh:Code:=ZhX Zjf
theorem Zih:C 12 Zjf s=thenV (C 12 Zbf s) (C 12 Zjh):=qS
def Zao:List Nat:=[0,1,3,7,0,31,63,0,128,384,896,0,3968,8064,16383]
theorem Zii:C 12 Zbf s=D 12 Zbf Zao 0 [] s:=qD 8
theorem Zot:D 12 Zbf Zao 0 dn s=ZhW s (some 46) 0 Zao dn (some {v:=R s 15}) (D 12 Zbf Zao 1):=dR
theorem Zou:D 12 Zbf Zao 1 dn s=ZhW s (some 47) 1 Zao dn (ZCn Tryz.prog (R s 46)) (D 12 Zbf Zao 2):=dR
theorem ZoB:D 12 Zbf Zao 2 dn s=ZhW s (some 48) 2 Zao dn (val (ZmN (R s 47) 2)) (D 12 Zbf Zao 3):=dR
theorem ZoC:D 12 Zbf Zao 3 dn s=ZhW s (some 49) 3 Zao dn (Zi3 Tryz.prog 27 s.h.get (R s 48)) (D 12 Zbf Zao 4):=dR
theorem ZoD:D 12 Zbf Zao 4 dn s=ZhW s (some 50) 4 Zao dn (some {v:=R s 3}) (D 12 Zbf Zao 5):=dR
theorem ZoE:D 12 Zbf Zao 5 dn s=ZhW s (some 51) 5 Zao dn (val (indexAddr Tryz.prog 27 (R s 49) (R s 50))) (D 12 Zbf Zao 6):=dR
theorem ZoF:D 12 Zbf Zao 6 dn s=ZhW s (some 52) 6 Zao dn (Zi3 Tryz.prog 3 s.h.get (R s 51)) (D 12 Zbf Zao 7):=dR
theorem ZoG:D 12 Zbf Zao 7 dn s=ZhW s (some 53) 7 Zao dn (some {v:=R s 15}) (D 12 Zbf Zao 8):=dR
theorem ZoH:D 12 Zbf Zao 8 dn s=ZhW s (some 54) 8 Zao dn (ZCn Tryz.prog (R s 53)) (D 12 Zbf Zao 9):=dR
theorem ZoI:D 12 Zbf Zao 9 dn s=ZhW s (some 55) 9 Zao dn (val (ZmN (R s 54) 2)) (D 12 Zbf Zao 10):=dR
theorem Zov:D 12 Zbf Zao 10 dn s=ZhW s (some 56) 10 Zao dn (Zi3 Tryz.prog 27 s.h.get (R s 55)) (D 12 Zbf Zao 11):=dR
theorem Zow:D 12 Zbf Zao 11 dn s=ZhW s (some 57) 11 Zao dn (some {v:=R s 4}) (D 12 Zbf Zao 12):=dR
theorem Zox:D 12 Zbf Zao 12 dn s=ZhW s (some 58) 12 Zao dn (val (indexAddr Tryz.prog 27 (R s 56) (R s 57))) (D 12 Zbf Zao 13):=dR
theorem Zoy:D 12 Zbf Zao 13 dn s=ZhW s (some 59) 13 Zao dn (Zi3 Tryz.prog 3 s.h.get (R s 58)) (D 12 Zbf Zao 14):=dR
theorem Zoz:D 12 Zbf Zao 14 dn s=ZhW s (some 60) 14 Zao dn (val (ZmJ Tryz.prog .neq 3 false false (R s 52) (R s 59))) (D 12 Zbf Zao 15):=dR
theorem ZoA:D 12 Zbf Zao 15 dn s=some [(.normal,s)]:=qd
def Zji:Code:=ZgE Zjh
def ZoK:Code:=ZhX Zjh
theorem Zij:C 12 Zjh s=ZmY (R s 60) (C 12 Zji) (C 12 ZoK) s:=qC
def Zhm:Code:=ZgE Zji
def ZoR:Code:=ZhX Zji
theorem ZoJ:C 12 Zji s=thenV (C 12 Zhm s) (C 12 ZoR):=qS
theorem ZoQ:C 12 Zhm s=O 12 Zhm 0 s:=qG 9
theorem ZoM:O 12 Zhm 0 s=Zbb s (some 10) (some {v:=(.nils)}) (O 12 Zhm 1):=oR
theorem ZoN:O 12 Zhm 1 s=Zbb s (some 11) (some {v:=(.bool false)}) (O 12 Zhm 2):=oR
theorem ZoO:O 12 Zhm 2 s=Zbb s (some 12) (some {v:=(.int .i64 (0))}) (O 12 Zhm 3):=oR
theorem ZoP:O 12 Zhm 3 s=some [(.normal,s)]:=qe
theorem ZoS:C 12 ZoR s=some [(.ret,s)]:=qR
theorem ZoL:C 12 ZoK s=some [(.normal,s)]:=qK
def Zhn:Code:=ZgE Zjg
def Zjk:Code:=ZhX Zjg
theorem Zis:C 12 Zjg s=thenV (C 12 Zhn s) (C 12 Zjk):=qS
theorem Zit:C 12 Zhn s=O 12 Zhn 0 s:=qG 10
theorem ZoT:O 12 Zhn 0 s=Zbb s (some 61) (some {v:=.map s.h.n,nw:=[.map [] 0]}) (O 12 Zhn 1):=oR
theorem ZoU:O 12 Zhn 1 s=Zbb s (some 16) (some {v:=.ptr s.h.n 0,nw:=[.row 0 [.nilm]]}) (O 12 Zhn 2):=oR
theorem ZoV:O 12 Zhn 2 s=Zbb s none (ZnB Tryz.prog 87 s.h.get (R s 16) (R s 61)) (O 12 Zhn 3):=oR
theorem ZoW:O 12 Zhn 3 s=some [(.normal,s)]:=qe
def ZgR:Code:=ZgE Zjk
def Zjl:Code:=ZhX Zjk
theorem Ziu:C 12 Zjk s=thenV (C 12 ZgR s) (C 12 Zjl):=qS
theorem Ziv:C 12 ZgR s=O 12 ZgR 0 s:=qG 11
theorem ZoX:O 12 ZgR 0 s=Zbb s (some 62) (some {v:=R s 15}) (O 12 ZgR 1):=oR
theorem ZoY:O 12 ZgR 1 s=Zbb s (some 63) (some {v:=R s 3}) (O 12 ZgR 2):=oR
theorem ZoZ:O 12 ZgR 2 s=Zbb s (some 64) (some {v:=R s 4}) (O 12 ZgR 3):=oR
theorem Zo0:O 12 ZgR 3 s=Zbb s (some 65) (some {v:=.map s.h.n,nw:=[.map [] 0]}) (O 12 ZgR 4):=oR
theorem Zo1:O 12 ZgR 4 s=Zbb s (some 66) (Zi3 Tryz.prog 87 s.h.get (R s 16)) (O 12 ZgR 5):=oR
theorem Zo2:O 12 ZgR 5 s=ZCo (some 67) s (ZCi Tryz.prog hs ks 29 [R s 62,R s 63,R s 64,R s 65,R s 66] s.h) (O 12 ZgR 6):=cR
theorem Zo3:O 12 ZgR 6 s=some [(.normal,s)]:=qe
def Zh2:Code:=ZgE Zjl
def Zjm:Code:=ZhX Zjl
theorem Ziw:C 12 Zjl s=thenV (C 12 Zh2 s) (C 12 Zjm):=qS
theorem Zix:C 12 Zh2 s=O 12 Zh2 0 s:=qG 12
theorem Zo4:O 12 Zh2 0 s=Zbb s (some 17) (some {v:=(.nils)}) (O 12 Zh2 1):=oR
theorem Zo5:O 12 Zh2 1 s=some [(.normal,s)]:=qe
def Zjn:Code:=ZgE Zjm
def Zjo:Code:=ZhX Zjm
theorem Ziy:C 12 Zjm s=thenV (C 12 Zjn s) (C 12 Zjo):=qS
def Zho:Code:=ZgE Zjn
def ZmA:Code:=ZhX Zjn
theorem Ziz:C 12 Zjn s=thenV (C 12 Zho s) (C 12 ZmA):=qS
theorem Zpa:C 12 Zho s=O 12 Zho 0 s:=qG 13
theorem Zo6:O 12 Zho 0 s=Zbb s (some 68) (some {v:=R s 2}) (O 12 Zho 1):=oR
theorem Zo7:O 12 Zho 1 s=Zbb s (some 69) (ZmL Tryz.prog false s.h.get s.h.n .len [22] [R s 68]) (O 12 Zho 2):=oR
theorem Zo8:O 12 Zho 2 s=Zbb s (some 70) (some {v:=(.int .i64 (0))}) (O 12 Zho 3):=oR
theorem Zo9:O 12 Zho 3 s=some [(.normal,s)]:=qe
def ZiC:Code:=ZgE ZmA
theorem ZiB:C 12 ZmA s=ZmZ 0 (C 12 ZiC s):=qB
def Zjp:Code:=ZgE ZiC
theorem Zuv:C 12 ZiC s=thenV (C 12 Zjp s) (C 12 ZiC):=qL
def Zh3:Code:=ZgE Zjp
def Zjq:Code:=ZhX Zjp
theorem Zpb:C 12 Zjp s=thenV (C 12 Zh3 s) (C 12 Zjq):=qS
theorem Zpe:C 12 Zh3 s=O 12 Zh3 0 s:=qG 14
theorem Zpc:O 12 Zh3 0 s=Zbb s (some 71) (val (ZmJ Tryz.prog .lss 3 false false (R s 70) (R s 69))) (O 12 Zh3 1):=oR
theorem Zpd:O 12 Zh3 1 s=some [(.normal,s)]:=qe
def Zjr:Code:=ZgE Zjq
def Zjs:Code:=ZhX Zjq
theorem Zpf:C 12 Zjq s=thenV (C 12 Zjr s) (C 12 Zjs):=qS
def Zph:Code:=ZgE Zjr
def Zpj:Code:=ZhX Zjr
theorem Zpg:C 12 Zjr s=ZmY (R s 71) (C 12 Zph) (C 12 Zpj) s:=qC
theorem Zpi:C 12 Zph s=some [(.normal,s)]:=qK
theorem Zpk:C 12 Zpj s=some [(.exit 0,s)]:=qE
def Zju:Code:=ZgE Zjs
def ZhF:Code:=ZhX Zjs
theorem ZiD:C 12 Zjs s=thenV (C 12 Zju s) (C 12 ZhF):=qS
def Zjv:Code:=ZgE Zju
theorem Zil:C 12 Zju s=ZmZ 1 (C 12 Zjv s):=qB
def ZhG:Code:=ZgE Zjv
def Zjx:Code:=ZhX Zjv
theorem Zjw:C 12 Zjv s=thenV (C 12 ZhG s) (C 12 Zjx):=qS
theorem Zpy:C 12 ZhG s=O 12 ZhG 0 s:=qG 15
theorem Zpv:O 12 ZhG 0 s=Zbb s (some 72) (some {v:=R s 70}) (O 12 ZhG 1):=oR
theorem Zpw:O 12 ZhG 1 s=Zbb s (some 18) (some {v:=R s 72}) (O 12 ZhG 2):=oR
theorem Zpx:O 12 ZhG 2 s=some [(.normal,s)]:=qe
def Zjz:Code:=ZgE Zjx
def ZjA:Code:=ZhX Zjx
theorem Zjy:C 12 Zjx s=thenV (C 12 Zjz s) (C 12 ZjA):=qS
def Zg5:Code:=ZgE Zjz
def ZjC:Code:=ZhX Zjz
theorem ZiE:C 12 Zjz s=thenV (C 12 Zg5 s) (C 12 ZjC):=qS
theorem ZpE:C 12 Zg5 s=O 12 Zg5 0 s:=qG 16
theorem Zpz:O 12 Zg5 0 s=Zbb s (some 73) (Zi3 Tryz.prog 87 s.h.get (R s 16)) (O 12 Zg5 1):=oR
theorem ZpA:O 12 Zg5 1 s=Zbb s (some 74) (some {v:=R s 18}) (O 12 Zg5 2):=oR
theorem ZpB:O 12 Zg5 2 s=Zbb s (some 75) (lookup Tryz.prog s.h.get 87 (R s 73) (R s 74) false) (O 12 Zg5 3):=oR
theorem ZpC:O 12 Zg5 3 s=Zbb s (some 76) (xUn .not (R s 75)) (O 12 Zg5 4):=oR
theorem ZpD:O 12 Zg5 4 s=some [(.normal,s)]:=qe
def ZpG:Code:=ZgE ZjC
def ZpI:Code:=ZhX ZjC
theorem ZpF:C 12 ZjC s=ZmY (R s 76) (C 12 ZpG) (C 12 ZpI) s:=qC
theorem ZpH:C 12 ZpG s=some [(.exit 1,s)]:=qE
theorem ZpJ:C 12 ZpI s=some [(.normal,s)]:=qK
def Zhp:Code:=ZgE ZjA
def ZjE:Code:=ZhX ZjA
theorem ZjB:C 12 ZjA s=thenV (C 12 Zhp s) (C 12 ZjE):=qS
theorem ZjD:C 12 Zhp s=O 12 Zhp 0 s:=qG 17
theorem ZpK:O 12 Zhp 0 s=Zbb s (some 77) (Zi3 Tryz.prog 87 s.h.get (R s 16)) (O 12 Zhp 1):=oR
theorem ZpL:O 12 Zhp 1 s=Zbb s (some 78) (some {v:=R s 18}) (O 12 Zhp 2):=oR
theorem ZpM:O 12 Zhp 2 s=Zbb s none (mapUpdate Tryz.prog s.h.get 87 (R s 77) (R s 78) (.bool false)) (O 12 Zhp 3):=oR
theorem ZpN:O 12 Zhp 3 s=some [(.normal,s)]:=qe
def ZgS:Code:=ZgE ZjE
def ZjH:Code:=ZhX ZjE
theorem ZjF:C 12 ZjE s=thenV (C 12 ZgS s) (C 12 ZjH):=qS
theorem ZjG:C 12 ZgS s=O 12 ZgS 0 s:=qG 18
theorem ZpO:O 12 ZgS 0 s=Zbb s (some 79) (some {v:=R s 0}) (O 12 ZgS 1):=oR
theorem ZpP:O 12 ZgS 1 s=Zbb s (some 80) (some {v:=R s 1}) (O 12 ZgS 2):=oR
theorem ZpQ:O 12 ZgS 2 s=Zbb s (some 81) (some {v:=R s 2}) (O 12 ZgS 3):=oR
theorem ZpR:O 12 ZgS 3 s=Zbb s (some 82) (some {v:=.fn (.func 30) [] [R s 16]}) (O 12 ZgS 4):=oR
theorem ZpS:O 12 ZgS 4 s=ZCo (some 83) s (ZCi Tryz.prog hs ks 22 [R s 79,R s 80,R s 81,R s 82] s.h) (O 12 ZgS 5):=cR
theorem ZpT:O 12 ZgS 5 s=Zbb s (some 19) (some {v:=R s 83}) (O 12 ZgS 6):=oR
theorem ZpU:O 12 ZgS 6 s=some [(.normal,s)]:=qe
def Zbg:Code:=ZgE ZjH
def ZjK:Code:=ZhX ZjH
theorem ZjI:C 12 ZjH s=thenV (C 12 Zbg s) (C 12 ZjK):=qS
def Zba:List Nat:=[0,1,3,7,0,31,63,0,128,384,896,0,3968,8064,16383]
theorem ZjJ:C 12 Zbg s=D 12 Zbg Zba 0 [] s:=qD 19
theorem ZpV:D 12 Zbg Zba 0 dn s=ZhW s (some 84) 0 Zba dn (some {v:=R s 19}) (D 12 Zbg Zba 1):=dR
theorem ZpW:D 12 Zbg Zba 1 dn s=ZhW s (some 85) 1 Zba dn (ZCn Tryz.prog (R s 84)) (D 12 Zbg Zba 2):=dR
theorem Zp3:D 12 Zbg Zba 2 dn s=ZhW s (some 86) 2 Zba dn (val (ZmN (R s 85) 2)) (D 12 Zbg Zba 3):=dR
theorem Zp4:D 12 Zbg Zba 3 dn s=ZhW s (some 87) 3 Zba dn (Zi3 Tryz.prog 27 s.h.get (R s 86)) (D 12 Zbg Zba 4):=dR
theorem Zp5:D 12 Zbg Zba 4 dn s=ZhW s (some 88) 4 Zba dn (some {v:=R s 3}) (D 12 Zbg Zba 5):=dR
theorem Zp6:D 12 Zbg Zba 5 dn s=ZhW s (some 89) 5 Zba dn (val (indexAddr Tryz.prog 27 (R s 87) (R s 88))) (D 12 Zbg Zba 6):=dR
theorem Zp7:D 12 Zbg Zba 6 dn s=ZhW s (some 90) 6 Zba dn (Zi3 Tryz.prog 3 s.h.get (R s 89)) (D 12 Zbg Zba 7):=dR
theorem Zp8:D 12 Zbg Zba 7 dn s=ZhW s (some 91) 7 Zba dn (some {v:=R s 19}) (D 12 Zbg Zba 8):=dR
theorem Zp9:D 12 Zbg Zba 8 dn s=ZhW s (some 92) 8 Zba dn (ZCn Tryz.prog (R s 91)) (D 12 Zbg Zba 9):=dR
theorem Zqa:D 12 Zbg Zba 9 dn s=ZhW s (some 93) 9 Zba dn (val (ZmN (R s 92) 2)) (D 12 Zbg Zba 10):=dR
theorem ZpX:D 12 Zbg Zba 10 dn s=ZhW s (some 94) 10 Zba dn (Zi3 Tryz.prog 27 s.h.get (R s 93)) (D 12 Zbg Zba 11):=dR
theorem ZpY:D 12 Zbg Zba 11 dn s=ZhW s (some 95) 11 Zba dn (some {v:=R s 4}) (D 12 Zbg Zba 12):=dR
theorem ZpZ:D 12 Zbg Zba 12 dn s=ZhW s (some 96) 12 Zba dn (val (indexAddr Tryz.prog 27 (R s 94) (R s 95))) (D 12 Zbg Zba 13):=dR
theorem Zp0:D 12 Zbg Zba 13 dn s=ZhW s (some 97) 13 Zba dn (Zi3 Tryz.prog 3 s.h.get (R s 96)) (D 12 Zbg Zba 14):=dR
theorem Zp1:D 12 Zbg Zba 14 dn s=ZhW s (some 98) 14 Zba dn (val (ZmJ Tryz.prog .neq 3 false false (R s 90) (R s 97))) (D 12 Zbg Zba 15):=dR
theorem Zp2:D 12 Zbg Zba 15 dn s=some [(.normal,s)]:=qd
def ZjM:Code:=ZgE ZjK
def Zqb:Code:=ZhX ZjK
theorem ZjL:C 12 ZjK s=ZmY (R s 98) (C 12 ZjM) (C 12 Zqb) s:=qC
def Zhq:Code:=ZgE ZjM
def ZgX:Code:=ZhX ZjM
theorem ZjN:C 12 ZjM s=thenV (C 12 Zhq s) (C 12 ZgX):=qS
theorem Zqh:C 12 Zhq s=O 12 Zhq 0 s:=qG 20
theorem Zqd:O 12 Zhq 0 s=Zbb s (some 99) (Zi3 Tryz.prog 87 s.h.get (R s 16)) (O 12 Zhq 1):=oR
theorem Zqe:O 12 Zhq 1 s=Zbb s (some 100) (some {v:=R s 18}) (O 12 Zhq 2):=oR
theorem Zqf:O 12 Zhq 2 s=Zbb s none (mapUpdate Tryz.prog s.h.get 87 (R s 99) (R s 100) (.bool true)) (O 12 Zhq 3):=oR
theorem Zqg:O 12 Zhq 3 s=some [(.normal,s)]:=qe
theorem ZjP:C 12 ZgX s=O 12 ZgX 0 s:=qG 21
theorem Zqm:O 12 ZgX 0 s=Zbb s (some 101) (some {v:=R s 17}) (O 12 ZgX 1):=oR
theorem Zqn:O 12 ZgX 1 s=Zbb s (some 102) (some {v:=R s 18}) (O 12 ZgX 2):=oR
theorem Zqo:O 12 ZgX 2 s=Zbb s (some 103) (ZDl Tryz.prog false 27 1 [(0,(R s 102))] s.h.n) (O 12 ZgX 3):=oR
theorem Zqp:O 12 ZgX 3 s=Zbb s (some 104) (ZmL Tryz.prog false s.h.get s.h.n .append [27,27] [R s 101,R s 103]) (O 12 ZgX 4):=oR
theorem Zqq:O 12 ZgX 4 s=Zbb s (some 17) (some {v:=R s 104}) (O 12 ZgX 5):=oR
theorem Zqr:O 12 ZgX 5 s=some [(.normal,s)]:=qe
theorem Zqc:C 12 Zqb s=some [(.normal,s)]:=qK
theorem Zim:C 12 ZhF s=O 12 ZhF 0 s:=qG 22
theorem Zps:O 12 ZhF 0 s=Zbb s (some 105) (val (ZmJ Tryz.prog .add 3 false true (R s 70) (.int .i64 (1)))) (O 12 ZhF 1):=oR
theorem Zpt:O 12 ZhF 1 s=Zbb s (some 70) (some {v:=R s 105}) (O 12 ZhF 2):=oR
theorem Zpu:O 12 ZhF 2 s=some [(.normal,s)]:=qe
def Zg6:Code:=ZgE Zjo
def Zqy:Code:=ZhX Zjo
theorem ZiA:C 12 Zjo s=thenV (C 12 Zg6 s) (C 12 Zqy):=qS
theorem Zqx:C 12 Zg6 s=O 12 Zg6 0 s:=qG 23
theorem Zqs:O 12 Zg6 0 s=Zbb s (some 106) (some {v:=R s 17}) (O 12 Zg6 1):=oR
theorem Zqt:O 12 Zg6 1 s=Zbb s (some 10) (some {v:=R s 106}) (O 12 Zg6 2):=oR
theorem Zqu:O 12 Zg6 2 s=Zbb s (some 11) (some {v:=(.bool true)}) (O 12 Zg6 3):=oR
theorem Zqv:O 12 Zg6 3 s=Zbb s (some 12) (some {v:=(.int .i64 (0))}) (O 12 Zg6 4):=oR
theorem Zqw:O 12 Zg6 4 s=some [(.normal,s)]:=qe
theorem Zqz:C 12 Zqy s=some [(.ret,s)]:=qR
def k28:Code:=Tryz.f28.body.getD .skip
theorem ZBC (args:List V) (ha:args.length≤3) (h:H):(EV Tryz.prog hs ks).call 28 args h=Zm1 Tryz.prog hs ks Tryz.f28 (C 28 k28 (S 3 (ZCl args 0 fun _=> ZmM) [] h)):=Qu Tryz.func28 (by kernel_rfl) (by kernel_rfl) (by decide) rfl ha h
theorem ZBD (f:Nat→V) (h:H):Zm1 Tryz.prog hs ks Tryz.f28 (some [(.ret,S 3 f [] h)])=ZCp (ZCk Tryz.prog (S 3 f [] h) [.tmp 2]) h:=Zc (by kernel_rfl) (Or.inl rfl) _ _
def Zia:Code:=ZgE k28
def ZkR:Code:=ZhX k28
theorem ZBB:C 28 k28 s=thenV (C 28 Zia s) (C 28 ZkR):=qS
theorem ZBv:C 28 Zia s=O 28 Zia 0 s:=qG 0
theorem ZBt:O 28 Zia 0 s=Zbb s (some 2) (some {v:=(.bool false)}) (O 28 Zia 1):=oR
theorem ZBu:O 28 Zia 1 s=some [(.normal,s)]:=qe
def Zib:Code:=ZgE ZkR
def ZqR:Code:=ZhX ZkR
theorem ZBw:C 28 ZkR s=thenV (C 28 Zib s) (C 28 ZqR):=qS
theorem ZBz:C 28 Zib s=O 28 Zib 0 s:=qG 1
theorem ZBx:O 28 Zib 0 s=Zbb s (some 2) (some {v:=(.bool true)}) (O 28 Zib 1):=oR
theorem ZBy:O 28 Zib 1 s=some [(.normal,s)]:=qe
theorem ZBA:C 28 ZqR s=some [(.ret,s)]:=qR
def k29:Code:=Tryz.f29.body.getD .skip
theorem ZBE (args:List V) (ha:args.length≤124) (h:H):(EV Tryz.prog hs ks).call 29 args h=Zm1 Tryz.prog hs ks Tryz.f29 (C 29 k29 (S 124 (ZCl args 0 fun _=> ZmM) [] h)):=Qu Tryz.func29 (by kernel_rfl) (by kernel_rfl) (by decide) rfl ha h
theorem ZmX (f:Nat→V) (h:H):Zm1 Tryz.prog hs ks Tryz.f29 (some [(.normal,S 124 f [] h)])=ZCp (ZCk Tryz.prog (S 124 f [] h) []) h:=Zc (by kernel_rfl) (Or.inr rfl) _ _
def ZhJ:Code:=ZgE k29
def ZkT:Code:=ZhX k29
theorem ZmW:C 29 k29 s=thenV (C 29 ZhJ s) (C 29 ZkT):=qS
theorem ZkS:C 29 ZhJ s=O 29 ZhJ 0 s:=qG 0
theorem ZqS:O 29 ZhJ 0 s=Zbb s (some 19) (some {v:=.map s.h.n,nw:=[.map [] 0]}) (O 29 ZhJ 1):=oR
theorem ZqT:O 29 ZhJ 1 s=Zbb s (some 10) (some {v:=R s 19}) (O 29 ZhJ 2):=oR
theorem ZqU:O 29 ZhJ 2 s=some [(.normal,s)]:=qe
def Zk0:Code:=ZgE ZkT
def Zk7:Code:=ZhX ZkT
theorem ZkZ:C 29 ZkT s=thenV (C 29 Zk0 s) (C 29 Zk7):=qS
def ZhM:Code:=ZgE Zk0
def ZmV:Code:=ZhX Zk0
theorem Zk6:C 29 Zk0 s=thenV (C 29 ZhM s) (C 29 ZmV):=qS
theorem Zlk:C 29 ZhM s=O 29 ZhM 0 s:=qG 1
theorem Zsg:O 29 ZhM 0 s=Zbb s (some 20) (some {v:=R s 1}) (O 29 ZhM 1):=oR
theorem Zsh:O 29 ZhM 1 s=Zbb s (some 11) (some {v:=R s 20}) (O 29 ZhM 2):=oR
theorem Zsi:O 29 ZhM 2 s=some [(.normal,s)]:=qe
def ZiW:Code:=ZgE ZmV
theorem Zlt:C 29 ZmV s=ZmZ 0 (C 29 ZiW s):=qB
def ZlE:Code:=ZgE ZiW
theorem Zxa:C 29 ZiW s=thenV (C 29 ZlE s) (C 29 ZiW):=qL
def ZlM:Code:=ZgE ZlE
def ZlN:Code:=ZhX ZlE
theorem Zt3:C 29 ZlE s=thenV (C 29 ZlM s) (C 29 ZlN):=qS
def ZhK:Code:=ZgE ZlM
def ZkU:Code:=ZhX ZlM
theorem Zt4:C 29 ZlM s=thenV (C 29 ZhK s) (C 29 ZkU):=qS
theorem ZqY:C 29 ZhK s=O 29 ZhK 0 s:=qG 2
theorem ZqV:O 29 ZhK 0 s=Zbb s (some 21) (some {v:=R s 11}) (O 29 ZhK 1):=oR
theorem ZqW:O 29 ZhK 1 s=Zbb s (some 22) (val (ZmJ Tryz.prog .geq 3 false true (R s 21) (.int .i64 (0)))) (O 29 ZhK 2):=oR
theorem ZqX:O 29 ZhK 2 s=some [(.normal,s)]:=qe
def Zq0:Code:=ZgE ZkU
def Zq2:Code:=ZhX ZkU
theorem ZqZ:C 29 ZkU s=ZmY (R s 22) (C 29 Zq0) (C 29 Zq2) s:=qC
theorem Zq1:C 29 Zq0 s=some [(.normal,s)]:=qK
theorem Zq3:C 29 Zq2 s=some [(.exit 0,s)]:=qE
def ZmP:Code:=ZgE ZlN
def ZgL:Code:=ZhX ZlN
theorem Zt5:C 29 ZlN s=thenV (C 29 ZmP s) (C 29 ZgL):=qS
def Zhw:Code:=ZgE ZmP
theorem Zq4:C 29 ZmP s=ZmZ 1 (C 29 Zhw s):=qB
theorem Zrj:C 29 Zhw s=O 29 Zhw 0 s:=qG 4
theorem Zrf:O 29 Zhw 0 s=Zbb s (some 30) (some {v:=R s 10}) (O 29 Zhw 1):=oR
theorem Zrg:O 29 Zhw 1 s=Zbb s (some 31) (some {v:=R s 11}) (O 29 Zhw 2):=oR
theorem Zrh:O 29 Zhw 2 s=Zbb s none (mapUpdate Tryz.prog s.h.get 87 (R s 30) (R s 31) (.bool true)) (O 29 Zhw 3):=oR
theorem Zri:O 29 Zhw 3 s=some [(.normal,s)]:=qe
theorem Zre:C 29 ZgL s=O 29 ZgL 0 s:=qG 3
theorem Zq5:O 29 ZgL 0 s=Zbb s (some 23) (some {v:=R s 0}) (O 29 ZgL 1):=oR
theorem Zq6:O 29 ZgL 1 s=Zbb s (some 24) (ZCn Tryz.prog (R s 23)) (O 29 ZgL 2):=oR
theorem Zq7:O 29 ZgL 2 s=Zbb s (some 25) (val (ZmN (R s 24) 6)) (O 29 ZgL 3):=oR
theorem Zq8:O 29 ZgL 3 s=Zbb s (some 26) (Zi3 Tryz.prog 27 s.h.get (R s 25)) (O 29 ZgL 4):=oR
theorem Zq9:O 29 ZgL 4 s=Zbb s (some 27) (some {v:=R s 11}) (O 29 ZgL 5):=oR
theorem Zra:O 29 ZgL 5 s=Zbb s (some 28) (val (indexAddr Tryz.prog 27 (R s 26) (R s 27))) (O 29 ZgL 6):=oR
theorem Zrb:O 29 ZgL 6 s=Zbb s (some 29) (Zi3 Tryz.prog 3 s.h.get (R s 28)) (O 29 ZgL 7):=oR
theorem Zrc:O 29 ZgL 7 s=Zbb s (some 11) (some {v:=R s 29}) (O 29 ZgL 8):=oR
theorem Zrd:O 29 ZgL 8 s=some [(.normal,s)]:=qe
def ZhL:Code:=ZgE Zk7
def ZkW:Code:=ZhX Zk7
theorem Zlf:C 29 Zk7 s=thenV (C 29 ZhL s) (C 29 ZkW):=qS
theorem ZkV:C 29 ZhL s=O 29 ZhL 0 s:=qG 5
theorem Zrk:O 29 ZhL 0 s=Zbb s (some 32) (some {v:=R s 2}) (O 29 ZhL 1):=oR
theorem Zrl:O 29 ZhL 1 s=Zbb s (some 12) (some {v:=R s 32}) (O 29 ZhL 2):=oR
theorem Zrm:O 29 ZhL 2 s=some [(.normal,s)]:=qe
def ZmQ:Code:=ZgE ZkW
def Zk1:Code:=ZhX ZkW
theorem ZkX:C 29 ZkW s=thenV (C 29 ZmQ s) (C 29 Zk1):=qS
def ZiK:Code:=ZgE ZmQ
theorem ZkY:C 29 ZmQ s=ZmZ 2 (C 29 ZiK s):=qB
def Zk3:Code:=ZgE ZiK
theorem Zw8:C 29 ZiK s=thenV (C 29 Zk3 s) (C 29 ZiK):=qL
def Zk4:Code:=ZgE Zk3
def ZmR:Code:=ZhX Zk3
theorem Zrn:C 29 Zk3 s=thenV (C 29 Zk4 s) (C 29 ZmR):=qS
def Zhe:Code:=ZgE Zk4
def Zk5:Code:=ZhX Zk4
theorem Zro:C 29 Zk4 s=thenV (C 29 Zhe s) (C 29 Zk5):=qS
theorem Zrv:C 29 Zhe s=O 29 Zhe 0 s:=qG 6
theorem Zrq:O 29 Zhe 0 s=Zbb s (some 33) (some {v:=R s 10}) (O 29 Zhe 1):=oR
theorem Zrr:O 29 Zhe 1 s=Zbb s (some 34) (some {v:=R s 12}) (O 29 Zhe 2):=oR
theorem Zrs:O 29 Zhe 2 s=Zbb s (some 35) (lookup Tryz.prog s.h.get 87 (R s 33) (R s 34) false) (O 29 Zhe 3):=oR
theorem Zrt:O 29 Zhe 3 s=Zbb s (some 36) (xUn .not (R s 35)) (O 29 Zhe 4):=oR
theorem Zru:O 29 Zhe 4 s=some [(.normal,s)]:=qe
def Zrx:Code:=ZgE Zk5
def Zrz:Code:=ZhX Zk5
theorem Zrw:C 29 Zk5 s=ZmY (R s 36) (C 29 Zrx) (C 29 Zrz) s:=qC
theorem Zry:C 29 Zrx s=some [(.normal,s)]:=qK
theorem ZrA:C 29 Zrz s=some [(.exit 2,s)]:=qE
def ZgM:Code:=ZgE ZmR
theorem Zrp:C 29 ZmR s=ZmZ 3 (C 29 ZgM s):=qB
theorem ZrK:C 29 ZgM s=O 29 ZgM 0 s:=qG 7
theorem ZrB:O 29 ZgM 0 s=Zbb s (some 37) (some {v:=R s 0}) (O 29 ZgM 1):=oR
theorem ZrC:O 29 ZgM 1 s=Zbb s (some 38) (ZCn Tryz.prog (R s 37)) (O 29 ZgM 2):=oR
theorem ZrD:O 29 ZgM 2 s=Zbb s (some 39) (val (ZmN (R s 38) 6)) (O 29 ZgM 3):=oR
theorem ZrE:O 29 ZgM 3 s=Zbb s (some 40) (Zi3 Tryz.prog 27 s.h.get (R s 39)) (O 29 ZgM 4):=oR
theorem ZrF:O 29 ZgM 4 s=Zbb s (some 41) (some {v:=R s 12}) (O 29 ZgM 5):=oR
theorem ZrG:O 29 ZgM 5 s=Zbb s (some 42) (val (indexAddr Tryz.prog 27 (R s 40) (R s 41))) (O 29 ZgM 6):=oR
theorem ZrH:O 29 ZgM 6 s=Zbb s (some 43) (Zi3 Tryz.prog 3 s.h.get (R s 42)) (O 29 ZgM 7):=oR
theorem ZrI:O 29 ZgM 7 s=Zbb s (some 12) (some {v:=R s 43}) (O 29 ZgM 8):=oR
theorem ZrJ:O 29 ZgM 8 s=some [(.normal,s)]:=qe
def Zg1:Code:=ZgE Zk1
def ZmS:Code:=ZhX Zk1
theorem Zk2:C 29 Zk1 s=thenV (C 29 Zg1 s) (C 29 ZmS):=qS
theorem Zk8:C 29 Zg1 s=O 29 Zg1 0 s:=qG 8
theorem ZrL:O 29 Zg1 0 s=Zbb s (some 44) (some {v:=R s 1}) (O 29 Zg1 1):=oR
theorem ZrM:O 29 Zg1 1 s=Zbb s (some 45) (some {v:=R s 2}) (O 29 Zg1 2):=oR
theorem ZrN:O 29 Zg1 2 s=Zbb s (some 46) (ZDl Tryz.prog false 27 2 [(0,(R s 44)),(1,(R s 45))] s.h.n) (O 29 Zg1 3):=oR
theorem ZrO:O 29 Zg1 3 s=Zbb s (some 47) (ZmL Tryz.prog false s.h.get s.h.n .len [27] [R s 46]) (O 29 Zg1 4):=oR
theorem ZrP:O 29 Zg1 4 s=Zbb s (some 48) (some {v:=(.int .i64 (0))}) (O 29 Zg1 5):=oR
theorem ZrQ:O 29 Zg1 5 s=some [(.normal,s)]:=qe
def Zla:Code:=ZgE ZmS
theorem Zk9:C 29 ZmS s=ZmZ 4 (C 29 Zla s):=qB
def Zlb:Code:=ZgE Zla
theorem ZrR:C 29 Zla s=thenV (C 29 Zlb s) (C 29 Zla):=qL
def Zic:Code:=ZgE Zlb
def Zlc:Code:=ZhX Zlb
theorem ZrS:C 29 Zlb s=thenV (C 29 Zic s) (C 29 Zlc):=qS
theorem ZrV:C 29 Zic s=O 29 Zic 0 s:=qG 9
theorem ZrT:O 29 Zic 0 s=Zbb s (some 49) (val (ZmJ Tryz.prog .lss 3 false false (R s 48) (R s 47))) (O 29 Zic 1):=oR
theorem ZrU:O 29 Zic 1 s=some [(.normal,s)]:=qe
def Zld:Code:=ZgE Zlc
def Zle:Code:=ZhX Zlc
theorem ZrW:C 29 Zlc s=thenV (C 29 Zld s) (C 29 Zle):=qS
def ZrY:Code:=ZgE Zld
def Zr0:Code:=ZhX Zld
theorem ZrX:C 29 Zld s=ZmY (R s 49) (C 29 ZrY) (C 29 Zr0) s:=qC
theorem ZrZ:C 29 ZrY s=some [(.normal,s)]:=qK
theorem Zr1:C 29 Zr0 s=some [(.exit 4,s)]:=qE
def ZmT:Code:=ZgE Zle
def ZhN:Code:=ZhX Zle
theorem ZiL:C 29 Zle s=thenV (C 29 ZmT s) (C 29 ZhN):=qS
def Zlg:Code:=ZgE ZmT
theorem ZiM:C 29 ZmT s=ZmZ 5 (C 29 Zlg s):=qB
def Zhx:Code:=ZgE Zlg
def Zlh:Code:=ZhX Zlg
theorem ZiO:C 29 Zlg s=thenV (C 29 Zhx s) (C 29 Zlh):=qS
theorem Zr9:C 29 Zhx s=O 29 Zhx 0 s:=qG 10
theorem Zr5:O 29 Zhx 0 s=Zbb s (some 50) (val (indexAddr Tryz.prog 27 (R s 46) (R s 48))) (O 29 Zhx 1):=oR
theorem Zr6:O 29 Zhx 1 s=Zbb s (some 51) (Zi3 Tryz.prog 3 s.h.get (R s 50)) (O 29 Zhx 2):=oR
theorem Zr7:O 29 Zhx 2 s=Zbb s (some 14) (some {v:=R s 51}) (O 29 Zhx 3):=oR
theorem Zr8:O 29 Zhx 3 s=some [(.normal,s)]:=qe
def ZhO:Code:=ZgE Zlh
def ZmU:Code:=ZhX Zlh
theorem ZiP:C 29 Zlh s=thenV (C 29 ZhO s) (C 29 ZmU):=qS
theorem Zsd:C 29 ZhO s=O 29 ZhO 0 s:=qG 11
theorem Zsa:O 29 ZhO 0 s=Zbb s (some 52) (some {v:=R s 14}) (O 29 ZhO 1):=oR
theorem Zsb:O 29 ZhO 1 s=Zbb s (some 15) (some {v:=R s 52}) (O 29 ZhO 2):=oR
theorem Zsc:O 29 ZhO 2 s=some [(.normal,s)]:=qe
def ZiR:Code:=ZgE ZmU
theorem ZiQ:C 29 ZmU s=ZmZ 6 (C 29 ZiR s):=qB
def Zli:Code:=ZgE ZiR
theorem Zw9:C 29 ZiR s=thenV (C 29 Zli s) (C 29 ZiR):=qL
def Zlj:Code:=ZgE Zli
def Zll:Code:=ZhX Zli
theorem Zse:C 29 Zli s=thenV (C 29 Zlj s) (C 29 Zll):=qS
def Zhy:Code:=ZgE Zlj
def Zln:Code:=ZhX Zlj
theorem Zsf:C 29 Zlj s=thenV (C 29 Zhy s) (C 29 Zln):=qS
theorem Zsn:C 29 Zhy s=O 29 Zhy 0 s:=qG 12
theorem Zsj:O 29 Zhy 0 s=Zbb s (some 53) (some {v:=R s 15}) (O 29 Zhy 1):=oR
theorem Zsk:O 29 Zhy 1 s=Zbb s (some 54) (some {v:=R s 12}) (O 29 Zhy 2):=oR
theorem Zsl:O 29 Zhy 2 s=Zbb s (some 55) (val (ZmJ Tryz.prog .neq 3 false false (R s 53) (R s 54))) (O 29 Zhy 3):=oR
theorem Zsm:O 29 Zhy 3 s=some [(.normal,s)]:=qe
def Zsp:Code:=ZgE Zln
def Zsr:Code:=ZhX Zln
theorem Zso:C 29 Zln s=ZmY (R s 55) (C 29 Zsp) (C 29 Zsr) s:=qC
theorem Zsq:C 29 Zsp s=some [(.normal,s)]:=qK
theorem Zss:C 29 Zsr s=some [(.exit 6,s)]:=qE
def Zlo:Code:=ZgE Zll
def ZgN:Code:=ZhX Zll
theorem Zlm:C 29 Zll s=thenV (C 29 Zlo s) (C 29 ZgN):=qS
def Zlp:Code:=ZgE Zlo
theorem ZiS:C 29 Zlo s=ZmZ 7 (C 29 Zlp s):=qB
def Zlq:Code:=ZgE Zlp
def Zlr:Code:=ZhX Zlp
theorem ZiU:C 29 Zlp s=thenV (C 29 Zlq s) (C 29 Zlr):=qS
def Zhz:Code:=ZgE Zlq
def Zlu:Code:=ZhX Zlq
theorem ZiV:C 29 Zlq s=thenV (C 29 Zhz s) (C 29 Zlu):=qS
theorem ZsG:C 29 Zhz s=O 29 Zhz 0 s:=qG 14
theorem ZsC:O 29 Zhz 0 s=Zbb s (some 63) (some {v:=R s 3}) (O 29 Zhz 1):=oR
theorem ZsD:O 29 Zhz 1 s=Zbb s (some 64) (some {v:=R s 15}) (O 29 Zhz 2):=oR
theorem ZsE:O 29 Zhz 2 s=Zbb s (some 65) (lookup Tryz.prog s.h.get 87 (R s 63) (R s 64) false) (O 29 Zhz 3):=oR
theorem ZsF:O 29 Zhz 3 s=some [(.normal,s)]:=qe
def ZsI:Code:=ZgE Zlu
def ZsK:Code:=ZhX Zlu
theorem ZsH:C 29 Zlu s=ZmY (R s 65) (C 29 ZsI) (C 29 ZsK) s:=qC
theorem ZsJ:C 29 ZsI s=some [(.exit 7,s)]:=qE
theorem ZsL:C 29 ZsK s=some [(.normal,s)]:=qK
def ZhA:Code:=ZgE Zlr
def Zlw:Code:=ZhX Zlr
theorem Zls:C 29 Zlr s=thenV (C 29 ZhA s) (C 29 Zlw):=qS
theorem Zlv:C 29 ZhA s=O 29 ZhA 0 s:=qG 15
theorem ZsM:O 29 ZhA 0 s=Zbb s (some 66) (some {v:=R s 3}) (O 29 ZhA 1):=oR
theorem ZsN:O 29 ZhA 1 s=Zbb s (some 67) (some {v:=R s 15}) (O 29 ZhA 2):=oR
theorem ZsO:O 29 ZhA 2 s=Zbb s none (mapUpdate Tryz.prog s.h.get 87 (R s 66) (R s 67) (.bool true)) (O 29 ZhA 3):=oR
theorem ZsP:O 29 ZhA 3 s=some [(.normal,s)]:=qe
def ZgJ:Code:=ZgE Zlw
def Zlz:Code:=ZhX Zlw
theorem Zlx:C 29 Zlw s=thenV (C 29 ZgJ s) (C 29 Zlz):=qS
theorem Zly:C 29 ZgJ s=O 29 ZgJ 0 s:=qG 16
theorem ZsQ:O 29 ZgJ 0 s=Zbb s (some 68) (some {v:=R s 0}) (O 29 ZgJ 1):=oR
theorem ZsR:O 29 ZgJ 1 s=Zbb s (some 69) (ZCn Tryz.prog (R s 68)) (O 29 ZgJ 2):=oR
theorem ZsS:O 29 ZgJ 2 s=Zbb s (some 70) (val (ZmN (R s 69) 7)) (O 29 ZgJ 3):=oR
theorem ZsT:O 29 ZgJ 3 s=Zbb s (some 71) (Zi3 Tryz.prog 80 s.h.get (R s 70)) (O 29 ZgJ 4):=oR
theorem ZsU:O 29 ZgJ 4 s=Zbb s (some 72) (some {v:=R s 15}) (O 29 ZgJ 5):=oR
theorem ZsV:O 29 ZgJ 5 s=Zbb s (some 73) (val (indexAddr Tryz.prog 80 (R s 71) (R s 72))) (O 29 ZgJ 6):=oR
theorem ZsW:O 29 ZgJ 6 s=Zbb s (some 74) (Zi3 Tryz.prog 126 s.h.get (R s 73)) (O 29 ZgJ 7):=oR
theorem ZsX:O 29 ZgJ 7 s=Zbb s (some 16) (some {v:=.ptr s.h.n 0,nw:=[.row 0 [.int .i64 (0),.int .i64 (0),.int .i64 (0)]]}) (O 29 ZgJ 8):=oR
theorem ZsY:O 29 ZgJ 8 s=Zbb s none (ZnB Tryz.prog 126 s.h.get (R s 16) (R s 74)) (O 29 ZgJ 9):=oR
theorem ZsZ:O 29 ZgJ 9 s=some [(.normal,s)]:=qe
def ZlB:Code:=ZgE Zlz
def ZlC:Code:=ZhX Zlz
theorem ZlA:C 29 Zlz s=thenV (C 29 ZlB s) (C 29 ZlC):=qS
def ZhB:Code:=ZgE ZlB
def ZlF:Code:=ZhX ZlB
theorem ZiX:C 29 ZlB s=thenV (C 29 ZhB s) (C 29 ZlF):=qS
theorem Zs4:C 29 ZhB s=O 29 ZhB 0 s:=qG 17
theorem Zs0:O 29 ZhB 0 s=Zbb s (some 75) (val (ZmN (R s 16) 2)) (O 29 ZhB 1):=oR
theorem Zs1:O 29 ZhB 1 s=Zbb s (some 76) (Zi3 Tryz.prog 3 s.h.get (R s 75)) (O 29 ZhB 2):=oR
theorem Zs2:O 29 ZhB 2 s=Zbb s (some 77) (val (ZmJ Tryz.prog .geq 3 false true (R s 76) (.int .i64 (0)))) (O 29 ZhB 3):=oR
theorem Zs3:O 29 ZhB 3 s=some [(.normal,s)]:=qe
def ZlG:Code:=ZgE ZlF
def Zs6:Code:=ZhX ZlF
theorem ZiY:C 29 ZlF s=ZmY (R s 77) (C 29 ZlG) (C 29 Zs6) s:=qC
def Zhf:Code:=ZgE ZlG
def Zte:Code:=ZhX ZlG
theorem Zs5:C 29 ZlG s=thenV (C 29 Zhf s) (C 29 Zte):=qS
theorem Ztd:C 29 Zhf s=O 29 Zhf 0 s:=qG 18
theorem Zs8:O 29 Zhf 0 s=Zbb s (some 78) (some {v:=R s 4}) (O 29 Zhf 1):=oR
theorem Zs9:O 29 Zhf 1 s=Zbb s (some 79) (val (ZmN (R s 16) 2)) (O 29 Zhf 2):=oR
theorem Zta:O 29 Zhf 2 s=Zbb s (some 80) (Zi3 Tryz.prog 3 s.h.get (R s 79)) (O 29 Zhf 3):=oR
theorem Ztb:O 29 Zhf 3 s=Zbb s none (mapUpdate Tryz.prog s.h.get 87 (R s 78) (R s 80) (.bool true)) (O 29 Zhf 4):=oR
theorem Ztc:O 29 Zhf 4 s=some [(.normal,s)]:=qe
theorem Ztf:C 29 Zte s=some [(.exit 7,s)]:=qE
theorem Zs7:C 29 Zs6 s=some [(.normal,s)]:=qK
def zZC:Code:=ZgE ZlC
def ZlI:Code:=ZhX ZlC
theorem ZlD:C 29 ZlC s=thenV (C 29 zZC s) (C 29 ZlI):=qS
def zw1:List Nat:=[0,1,3,7,0,16,0,64,192,448,1008,2047,4095,0,8192,24576,57344,0,131072,0,524288,1572864,3670016,8257536,16769024,33546240,0,0,201334783,536870911]
theorem ZlH:C 29 zZC s=D 29 zZC zw1 0 [] s:=qD 19
theorem Ztg:D 29 zZC zw1 0 dn s=ZhW s (some 81) 0 zw1 dn (some {v:=R s 0}) (D 29 zZC zw1 1):=dR
theorem Zth:D 29 zZC zw1 1 dn s=ZhW s (some 82) 1 zw1 dn (ZCn Tryz.prog (R s 81)) (D 29 zZC zw1 2):=dR
theorem Zts:D 29 zZC zw1 2 dn s=ZhW s (some 83) 2 zw1 dn (val (ZmN (R s 82) 1)) (D 29 zZC zw1 3):=dR
theorem ZtD:D 29 zZC zw1 3 dn s=ZhW s (some 84) 3 zw1 dn (Zi3 Tryz.prog 22 s.h.get (R s 83)) (D 29 zZC zw1 4):=dR
theorem ZtF:D 29 zZC zw1 4 dn s=ZhW s (some 85) 4 zw1 dn (val (ZmN (R s 16) 0)) (D 29 zZC zw1 5):=dR
theorem ZtG:D 29 zZC zw1 5 dn s=ZhW s (some 86) 5 zw1 dn (Zi3 Tryz.prog 3 s.h.get (R s 85)) (D 29 zZC zw1 6):=dR
theorem ZtH:D 29 zZC zw1 6 dn s=ZhW s (some 87) 6 zw1 dn (some {v:=R s 0}) (D 29 zZC zw1 7):=dR
theorem ZtI:D 29 zZC zw1 7 dn s=ZhW s (some 88) 7 zw1 dn (ZCn Tryz.prog (R s 87)) (D 29 zZC zw1 8):=dR
theorem ZtJ:D 29 zZC zw1 8 dn s=ZhW s (some 89) 8 zw1 dn (val (ZmN (R s 88) 0)) (D 29 zZC zw1 9):=dR
theorem ZtK:D 29 zZC zw1 9 dn s=ZhW s (some 90) 9 zw1 dn (Zi3 Tryz.prog 3 s.h.get (R s 89)) (D 29 zZC zw1 10):=dR
theorem Zti:D 29 zZC zw1 10 dn s=ZhW s (some 91) 10 zw1 dn (val (ZmJ Tryz.prog .sub 3 false false (R s 86) (R s 90))) (D 29 zZC zw1 11):=dR
theorem Ztj:D 29 zZC zw1 11 dn s=ZhW s (some 92) 11 zw1 dn (val (indexAddr Tryz.prog 22 (R s 84) (R s 91))) (D 29 zZC zw1 12):=dR
theorem Ztk:D 29 zZC zw1 12 dn s=ZhW s (some 93) 12 zw1 dn (Zi3 Tryz.prog 42 s.h.get (R s 92)) (D 29 zZC zw1 13):=dR
theorem Ztl:D 29 zZC zw1 13 dn s=ZhW s (some 94) 13 zw1 dn (some {v:=R s 0}) (D 29 zZC zw1 14):=dR
theorem Ztm:D 29 zZC zw1 14 dn s=ZhW s (some 95) 14 zw1 dn (ZCn Tryz.prog (R s 94)) (D 29 zZC zw1 15):=dR
theorem Ztn:D 29 zZC zw1 15 dn s=ZhW s (some 96) 15 zw1 dn (val (ZmN (R s 95) 1)) (D 29 zZC zw1 16):=dR
theorem Zto:D 29 zZC zw1 16 dn s=ZhW s (some 97) 16 zw1 dn (Zi3 Tryz.prog 22 s.h.get (R s 96)) (D 29 zZC zw1 17):=dR
theorem Ztp:D 29 zZC zw1 17 dn s=ZhW s (some 98) 17 zw1 dn (val (ZmN (R s 16) 1)) (D 29 zZC zw1 18):=dR
theorem Ztq:D 29 zZC zw1 18 dn s=ZhW s (some 99) 18 zw1 dn (Zi3 Tryz.prog 3 s.h.get (R s 98)) (D 29 zZC zw1 19):=dR
theorem Ztr:D 29 zZC zw1 19 dn s=ZhW s (some 100) 19 zw1 dn (some {v:=R s 0}) (D 29 zZC zw1 20):=dR
theorem Ztt:D 29 zZC zw1 20 dn s=ZhW s (some 101) 20 zw1 dn (ZCn Tryz.prog (R s 100)) (D 29 zZC zw1 21):=dR
theorem Ztu:D 29 zZC zw1 21 dn s=ZhW s (some 102) 21 zw1 dn (val (ZmN (R s 101) 0)) (D 29 zZC zw1 22):=dR
theorem Ztv:D 29 zZC zw1 22 dn s=ZhW s (some 103) 22 zw1 dn (Zi3 Tryz.prog 3 s.h.get (R s 102)) (D 29 zZC zw1 23):=dR
theorem Ztw:D 29 zZC zw1 23 dn s=ZhW s (some 104) 23 zw1 dn (val (ZmJ Tryz.prog .sub 3 false false (R s 99) (R s 103))) (D 29 zZC zw1 24):=dR
theorem Ztx:D 29 zZC zw1 24 dn s=ZhW s (some 105) 24 zw1 dn (val (indexAddr Tryz.prog 22 (R s 97) (R s 104))) (D 29 zZC zw1 25):=dR
theorem Zty:D 29 zZC zw1 25 dn s=ZhW s (some 106) 25 zw1 dn (Zi3 Tryz.prog 42 s.h.get (R s 105)) (D 29 zZC zw1 26):=dR
theorem Ztz:D 29 zZC zw1 26 dn s=ZhW s (some 17) 26 zw1 dn (some {v:=.ptr s.h.n 0,nw:=[.row 0 [.int .i64 (0),.int .i64 (0)]]}) (D 29 zZC zw1 27):=dR
theorem ZtA:D 29 zZC zw1 27 dn s=ZhW s (some 18) 27 zw1 dn (some {v:=.ptr s.h.n 0,nw:=[.row 0 [.int .i64 (0),.int .i64 (0)]]}) (D 29 zZC zw1 28):=dR
theorem ZtB:D 29 zZC zw1 28 dn s=ZhW s none 28 zw1 dn (ZnB Tryz.prog 42 s.h.get (R s 17) (R s 93)) (D 29 zZC zw1 29):=dR
theorem ZtC:D 29 zZC zw1 29 dn s=ZhW s none 29 zw1 dn (ZnB Tryz.prog 42 s.h.get (R s 18) (R s 106)) (D 29 zZC zw1 30):=dR
theorem ZtE:D 29 zZC zw1 30 dn s=some [(.normal,s)]:=qd
def ZgO:Code:=ZgE ZlI
def ZgP:Code:=ZhX ZlI
theorem ZlJ:C 29 ZlI s=thenV (C 29 ZgO s) (C 29 ZgP):=qS
theorem ZlK:C 29 ZgO s=O 29 ZgO 0 s:=qG 20
theorem ZtL:O 29 ZgO 0 s=Zbb s (some 107) (some {v:=R s 0}) (O 29 ZgO 1):=oR
theorem ZtM:O 29 ZgO 1 s=Zbb s (some 108) (val (indexAddr Tryz.prog 42 (R s 17) (.int .i64 (0)))) (O 29 ZgO 2):=oR
theorem ZtN:O 29 ZgO 2 s=Zbb s (some 109) (Zi3 Tryz.prog 3 s.h.get (R s 108)) (O 29 ZgO 3):=oR
theorem ZtO:O 29 ZgO 3 s=Zbb s (some 110) (val (indexAddr Tryz.prog 42 (R s 18) (.int .i64 (0)))) (O 29 ZgO 4):=oR
theorem ZtP:O 29 ZgO 4 s=Zbb s (some 111) (Zi3 Tryz.prog 3 s.h.get (R s 110)) (O 29 ZgO 5):=oR
theorem ZtQ:O 29 ZgO 5 s=Zbb s (some 112) (some {v:=R s 3}) (O 29 ZgO 6):=oR
theorem ZtR:O 29 ZgO 6 s=Zbb s (some 113) (some {v:=R s 4}) (O 29 ZgO 7):=oR
theorem ZtS:O 29 ZgO 7 s=ZCo (some 114) s (ZCi Tryz.prog hs ks 29 [R s 107,R s 109,R s 111,R s 112,R s 113] s.h) (O 29 ZgO 8):=cR
theorem ZtT:O 29 ZgO 8 s=some [(.normal,s)]:=qe
theorem ZlL:C 29 ZgP s=O 29 ZgP 0 s:=qG 21
theorem ZtU:O 29 ZgP 0 s=Zbb s (some 115) (some {v:=R s 0}) (O 29 ZgP 1):=oR
theorem ZtV:O 29 ZgP 1 s=Zbb s (some 116) (val (indexAddr Tryz.prog 42 (R s 17) (.int .i64 (1)))) (O 29 ZgP 2):=oR
theorem ZtW:O 29 ZgP 2 s=Zbb s (some 117) (Zi3 Tryz.prog 3 s.h.get (R s 116)) (O 29 ZgP 3):=oR
theorem ZtX:O 29 ZgP 3 s=Zbb s (some 118) (val (indexAddr Tryz.prog 42 (R s 18) (.int .i64 (1)))) (O 29 ZgP 4):=oR
theorem ZtY:O 29 ZgP 4 s=Zbb s (some 119) (Zi3 Tryz.prog 3 s.h.get (R s 118)) (O 29 ZgP 5):=oR
theorem ZtZ:O 29 ZgP 5 s=Zbb s (some 120) (some {v:=R s 3}) (O 29 ZgP 6):=oR
theorem Zt0:O 29 ZgP 6 s=Zbb s (some 121) (some {v:=R s 4}) (O 29 ZgP 7):=oR
theorem Zt1:O 29 ZgP 7 s=ZCo (some 122) s (ZCi Tryz.prog hs ks 29 [R s 115,R s 117,R s 119,R s 120,R s 121] s.h) (O 29 ZgP 8):=cR
theorem Zt2:O 29 ZgP 8 s=some [(.normal,s)]:=qe
theorem ZiT:C 29 ZgN s=O 29 ZgN 0 s:=qG 13
theorem Zst:O 29 ZgN 0 s=Zbb s (some 56) (some {v:=R s 0}) (O 29 ZgN 1):=oR
theorem Zsu:O 29 ZgN 1 s=Zbb s (some 57) (ZCn Tryz.prog (R s 56)) (O 29 ZgN 2):=oR
theorem Zsv:O 29 ZgN 2 s=Zbb s (some 58) (val (ZmN (R s 57) 6)) (O 29 ZgN 3):=oR
theorem Zsw:O 29 ZgN 3 s=Zbb s (some 59) (Zi3 Tryz.prog 27 s.h.get (R s 58)) (O 29 ZgN 4):=oR
theorem Zsx:O 29 ZgN 4 s=Zbb s (some 60) (some {v:=R s 15}) (O 29 ZgN 5):=oR
theorem Zsy:O 29 ZgN 5 s=Zbb s (some 61) (val (indexAddr Tryz.prog 27 (R s 59) (R s 60))) (O 29 ZgN 6):=oR
theorem Zsz:O 29 ZgN 6 s=Zbb s (some 62) (Zi3 Tryz.prog 3 s.h.get (R s 61)) (O 29 ZgN 7):=oR
theorem ZsA:O 29 ZgN 7 s=Zbb s (some 15) (some {v:=R s 62}) (O 29 ZgN 8):=oR
theorem ZsB:O 29 ZgN 8 s=some [(.normal,s)]:=qe
theorem ZiN:C 29 ZhN s=O 29 ZhN 0 s:=qG 22
theorem Zr2:O 29 ZhN 0 s=Zbb s (some 123) (val (ZmJ Tryz.prog .add 3 false true (R s 48) (.int .i64 (1)))) (O 29 ZhN 1):=oR
theorem Zr3:O 29 ZhN 1 s=Zbb s (some 48) (some {v:=R s 123}) (O 29 ZhN 2):=oR
theorem Zr4:O 29 ZhN 2 s=some [(.normal,s)]:=qe
def k30:Code:=Tryz.f30.body.getD .skip
theorem ZBR (args:List V) (ha:args.length≤7) (h:H):(EV Tryz.prog hs ks).call 30 args h=Zm1 Tryz.prog hs ks Tryz.f30 (C 30 k30 (S 7 (ZCl args 0 fun _=> ZmM) [] h)):=Qu Tryz.func30 (by kernel_rfl) (by kernel_rfl) (by decide) rfl ha h
theorem ZBS (f:Nat→V) (h:H):Zm1 Tryz.prog hs ks Tryz.f30 (some [(.ret,S 7 f [] h)])=ZCp (ZCk Tryz.prog (S 7 f [] h) [.tmp 3]) h:=Zc (by kernel_rfl) (Or.inl rfl) _ _
def Zid:Code:=ZgE k30
def ZlO:Code:=ZhX k30
theorem ZBQ:C 30 k30 s=thenV (C 30 Zid s) (C 30 ZlO):=qS
theorem ZBH:C 30 Zid s=O 30 Zid 0 s:=qG 0
theorem ZBF:O 30 Zid 0 s=Zbb s (some 3) (some {v:=(.bool false)}) (O 30 Zid 1):=oR
theorem ZBG:O 30 Zid 1 s=some [(.normal,s)]:=qe
def Zhg:Code:=ZgE ZlO
def Zt6:Code:=ZhX ZlO
theorem ZBI:C 30 ZlO s=thenV (C 30 Zhg s) (C 30 Zt6):=qS
theorem ZBO:C 30 Zhg s=O 30 Zhg 0 s:=qG 1
theorem ZBJ:O 30 Zhg 0 s=Zbb s (some 4) (Zi3 Tryz.prog 87 s.h.get (R s 1)) (O 30 Zhg 1):=oR
theorem ZBK:O 30 Zhg 1 s=Zbb s (some 5) (some {v:=R s 0}) (O 30 Zhg 2):=oR
theorem ZBL:O 30 Zhg 2 s=Zbb s (some 6) (lookup Tryz.prog s.h.get 87 (R s 4) (R s 5) false) (O 30 Zhg 3):=oR
theorem ZBM:O 30 Zhg 3 s=Zbb s (some 3) (some {v:=R s 6}) (O 30 Zhg 4):=oR
theorem ZBN:O 30 Zhg 4 s=some [(.normal,s)]:=qe
theorem ZBP:C 30 Zt6 s=some [(.ret,s)]:=qR
end
section
variable (dn:List (Nat×Foot)) (s:St)
def k4:Code:=Tryz.f4.body.getD .skip
theorem ZBT (args:List V) (ha:args.length≤140) (h:H):(EV Tryz.prog hs ks).call 4 args h=Zm1 Tryz.prog hs ks Tryz.f4 (C 4 k4 (S 140 (ZCl args 0 fun _=> ZmM) [] h)):=Qu Tryz.func4 (by kernel_rfl) (by kernel_rfl) (by decide) rfl ha h
theorem Zuk (f:Nat→V) (h:H):Zm1 Tryz.prog hs ks Tryz.f4 (some [(.ret,S 140 f [] h)])=ZCp (ZCk Tryz.prog (S 140 f [] h) [.tmp 6]) h:=Zc (by kernel_rfl) (Or.inl rfl) _ _
def ZEN:Code:=ZgE k4
def ZGi:Code:=ZhX k4
theorem ZHA:C 4 k4 s=thenV (C 4 ZEN s) (C 4 ZGi):=qS
theorem Zxe:C 4 ZEN s=O 4 ZEN 0 s:=qG 0
theorem Zxb:O 4 ZEN 0 s=Zbb s (some 3) (some {v:=.ptr s.h.n 0,nw:=[.row 0 (V.cells (R s 0))]}) (O 4 ZEN 1):=oR
theorem Zxc:O 4 ZEN 1 s=Zbb s (some 6) (some {v:=(.bool false)}) (O 4 ZEN 2):=oR
theorem Zxd:O 4 ZEN 2 s=some [(.normal,s)]:=qe
def ZGj:Code:=ZgE ZGi
def ZGk:Code:=ZhX ZGi
theorem Zm2:C 4 ZGi s=thenV (C 4 ZGj s) (C 4 ZGk):=qS
def ZDg:Code:=ZgE ZGj
def ZGl:Code:=ZhX ZGj
theorem Zl4:C 4 ZGj s=thenV (C 4 ZDg s) (C 4 ZGl):=qS
theorem ZyS:C 4 ZDg s=O 4 ZDg 0 s:=qG 1
theorem ZyJ:O 4 ZDg 0 s=Zbb s (some 18) (val (ZmN (R s 3) 0)) (O 4 ZDg 1):=oR
theorem ZyK:O 4 ZDg 1 s=Zbb s (some 19) (Zi3 Tryz.prog 3 s.h.get (R s 18)) (O 4 ZDg 2):=oR
theorem ZyL:O 4 ZDg 2 s=Zbb s (some 20) (val (ZmN (R s 3) 1)) (O 4 ZDg 3):=oR
theorem ZyM:O 4 ZDg 3 s=Zbb s (some 21) (Zi3 Tryz.prog 22 s.h.get (R s 20)) (O 4 ZDg 4):=oR
theorem ZyN:O 4 ZDg 4 s=Zbb s (some 22) (val (ZmN (R s 3) 2)) (O 4 ZDg 5):=oR
theorem ZyO:O 4 ZDg 5 s=Zbb s (some 23) (Zi3 Tryz.prog 22 s.h.get (R s 22)) (O 4 ZDg 6):=oR
theorem ZyP:O 4 ZDg 6 s=ZCo (some 24) s (ZCi Tryz.prog hs ks 7 [R s 19,R s 21,R s 23] s.h) (O 4 ZDg 7):=cR
theorem ZyQ:O 4 ZDg 7 s=Zbb s (some 25) (xUn .not (R s 24)) (O 4 ZDg 8):=oR
theorem ZyR:O 4 ZDg 8 s=some [(.normal,s)]:=qe
def ZGm:Code:=ZgE ZGl
def ZHy:Code:=ZhX ZGl
theorem ZzA:C 4 ZGl s=ZmY (R s 25) (C 4 ZGm) (C 4 ZHy) s:=qC
def ZEO:Code:=ZgE ZGm
def ZHz:Code:=ZhX ZGm
theorem ZzI:C 4 ZGm s=thenV (C 4 ZEO s) (C 4 ZHz):=qS
theorem ZAp:C 4 ZEO s=O 4 ZEO 0 s:=qG 2
theorem ZAm:O 4 ZEO 0 s=ZCo (some 26) s (ZCi Tryz.prog hs ks 8 [] s.h) (O 4 ZEO 1):=cR
theorem ZAn:O 4 ZEO 1 s=Zbb s (some 6) (some {v:=R s 26}) (O 4 ZEO 2):=oR
theorem ZAo:O 4 ZEO 2 s=some [(.normal,s)]:=qe
theorem ZAv:C 4 ZHz s=some [(.ret,s)]:=qR
theorem ZzU:C 4 ZHy s=some [(.normal,s)]:=qK
def Zbd:Code:=ZgE ZGk
def ZlQ:Code:=ZhX ZGk
theorem Zna:C 4 ZGk s=thenV (C 4 Zbd s) (C 4 ZlQ):=qS
theorem ZlP:C 4 Zbd s=O 4 Zbd 0 s:=qG 3
theorem Zxf:O 4 Zbd 0 s=Zbb s (some 28) (val (ZmN (R s 3) 0)) (O 4 Zbd 1):=oR
theorem Zxg:O 4 Zbd 1 s=Zbb s (some 29) (Zi3 Tryz.prog 3 s.h.get (R s 28)) (O 4 Zbd 2):=oR
theorem Zxo:O 4 Zbd 2 s=Zbb s (some 30) (val (ZmN (R s 3) 1)) (O 4 Zbd 3):=oR
theorem Zxp:O 4 Zbd 3 s=Zbb s (some 31) (Zi3 Tryz.prog 22 s.h.get (R s 30)) (O 4 Zbd 4):=oR
theorem Zxq:O 4 Zbd 4 s=Zbb s (some 32) (val (ZmN (R s 3) 2)) (O 4 Zbd 5):=oR
theorem Zxr:O 4 Zbd 5 s=Zbb s (some 33) (Zi3 Tryz.prog 22 s.h.get (R s 32)) (O 4 Zbd 6):=oR
theorem Zxs:O 4 Zbd 6 s=Zbb s (some 34) (some {v:=R s 1}) (O 4 Zbd 7):=oR
theorem Zxt:O 4 Zbd 7 s=Zbb s (some 35) (some {v:=R s 2}) (O 4 Zbd 8):=oR
theorem Zxu:O 4 Zbd 8 s=ZCo (some 36) s (ZCi Tryz.prog hs ks 12 [R s 29,R s 31,R s 33,R s 34,R s 35] s.h) (O 4 Zbd 9):=cR
theorem Zxv:O 4 Zbd 9 s=Zbb s (some 27) (some {v:=R s 36}) (O 4 Zbd 10):=oR
theorem Zxh:O 4 Zbd 10 s=Zbb s (some 37) (ZC6 (R s 27) 0) (O 4 Zbd 11):=oR
theorem Zxi:O 4 Zbd 11 s=Zbb s (some 38) (ZC6 (R s 27) 1) (O 4 Zbd 12):=oR
theorem Zxj:O 4 Zbd 12 s=Zbb s (some 39) (ZC6 (R s 27) 2) (O 4 Zbd 13):=oR
theorem Zxk:O 4 Zbd 13 s=Zbb s (some 7) (some {v:=R s 37}) (O 4 Zbd 14):=oR
theorem Zxl:O 4 Zbd 14 s=Zbb s (some 8) (some {v:=R s 38}) (O 4 Zbd 15):=oR
theorem Zxm:O 4 Zbd 15 s=Zbb s (some 9) (some {v:=R s 39}) (O 4 Zbd 16):=oR
theorem Zxn:O 4 Zbd 16 s=some [(.normal,s)]:=qe
def Zbe:Code:=ZgE ZlQ
def ZlT:Code:=ZhX ZlQ
theorem ZlR:C 4 ZlQ s=thenV (C 4 Zbe s) (C 4 ZlT):=qS
theorem ZlS:C 4 Zbe s=O 4 Zbe 0 s:=qG 4
theorem Zxw:O 4 Zbe 0 s=Zbb s (some 41) (val (ZmN (R s 3) 0)) (O 4 Zbe 1):=oR
theorem Zxx:O 4 Zbe 1 s=Zbb s (some 42) (Zi3 Tryz.prog 3 s.h.get (R s 41)) (O 4 Zbe 2):=oR
theorem ZxF:O 4 Zbe 2 s=Zbb s (some 43) (val (ZmN (R s 3) 1)) (O 4 Zbe 3):=oR
theorem ZxG:O 4 Zbe 3 s=Zbb s (some 44) (Zi3 Tryz.prog 22 s.h.get (R s 43)) (O 4 Zbe 4):=oR
theorem ZxH:O 4 Zbe 4 s=Zbb s (some 45) (val (ZmN (R s 3) 2)) (O 4 Zbe 5):=oR
theorem ZxI:O 4 Zbe 5 s=Zbb s (some 46) (Zi3 Tryz.prog 22 s.h.get (R s 45)) (O 4 Zbe 6):=oR
theorem ZxJ:O 4 Zbe 6 s=Zbb s (some 47) (some {v:=R s 1}) (O 4 Zbe 7):=oR
theorem ZxK:O 4 Zbe 7 s=Zbb s (some 48) (some {v:=R s 2}) (O 4 Zbe 8):=oR
theorem ZxL:O 4 Zbe 8 s=ZCo (some 49) s (ZCi Tryz.prog hs ks 13 [R s 42,R s 44,R s 46,R s 47,R s 48] s.h) (O 4 Zbe 9):=cR
theorem ZxM:O 4 Zbe 9 s=Zbb s (some 40) (some {v:=R s 49}) (O 4 Zbe 10):=oR
theorem Zxy:O 4 Zbe 10 s=Zbb s (some 50) (ZC6 (R s 40) 0) (O 4 Zbe 11):=oR
theorem Zxz:O 4 Zbe 11 s=Zbb s (some 51) (ZC6 (R s 40) 1) (O 4 Zbe 12):=oR
theorem ZxA:O 4 Zbe 12 s=Zbb s (some 52) (ZC6 (R s 40) 2) (O 4 Zbe 13):=oR
theorem ZxB:O 4 Zbe 13 s=Zbb s (some 10) (some {v:=R s 50}) (O 4 Zbe 14):=oR
theorem ZxC:O 4 Zbe 14 s=Zbb s (some 11) (some {v:=R s 51}) (O 4 Zbe 15):=oR
theorem ZxD:O 4 Zbe 15 s=Zbb s (some 12) (some {v:=R s 52}) (O 4 Zbe 16):=oR
theorem ZxE:O 4 Zbe 16 s=some [(.normal,s)]:=qe
def ZlV:Code:=ZgE ZlT
def ZlX:Code:=ZhX ZlT
theorem ZlU:C 4 ZlT s=thenV (C 4 ZlV s) (C 4 ZlX):=qS
def ZgF:Code:=ZgE ZlV
def ZlZ:Code:=ZhX ZlV
theorem ZlW:C 4 ZlV s=thenV (C 4 ZgF s) (C 4 ZlZ):=qS
theorem ZxW:C 4 ZgF s=O 4 ZgF 0 s:=qG 5
theorem ZxN:O 4 ZgF 0 s=Zbb s (some 53) (some {v:=R s 9}) (O 4 ZgF 1):=oR
theorem ZxO:O 4 ZgF 1 s=Zbb s (some 54) (some {v:=R s 12}) (O 4 ZgF 2):=oR
theorem ZxP:O 4 ZgF 2 s=Zbb s (some 55) (val (ZmJ Tryz.prog .neq 3 false false (R s 53) (R s 54))) (O 4 ZgF 3):=oR
theorem ZxQ:O 4 ZgF 3 s=Zbb s (some 56) (some {v:=R s 55}) (O 4 ZgF 4):=oR
theorem ZxR:O 4 ZgF 4 s=if Zmx (R s 56) false=true then Zbb s (some 57) (some {v:=R s 8}) (O 4 ZgF 5) else O 4 ZgF 5 (ZmH s (some 57)):=oI
theorem ZxS:O 4 ZgF 5 s=if Zmx (R s 56) false=true then Zbb s (some 58) (some {v:=R s 11}) (O 4 ZgF 6) else O 4 ZgF 6 (ZmH s (some 58)):=oI
theorem ZxT:O 4 ZgF 6 s=if Zmx (R s 56) false=true then Zbb s (some 59) (val (ZmJ Tryz.prog .neq 4 false false (R s 57) (R s 58))) (O 4 ZgF 7) else O 4 ZgF 7 (ZmH s (some 59)):=oI
theorem ZxU:O 4 ZgF 7 s=Zbb s (some 60) (ZCE (R s 56) (.bool true) (R s 59)) (O 4 ZgF 8):=oR
theorem ZxV:O 4 ZgF 8 s=some [(.normal,s)]:=qe
def Zl0:Code:=ZgE ZlZ
def Zt7:Code:=ZhX ZlZ
theorem ZxX:C 4 ZlZ s=ZmY (R s 60) (C 4 Zl0) (C 4 Zt7) s:=qC
theorem ZxY:C 4 Zt7 s=some [(.normal,s)]:=qK
def Zl1:Code:=ZgE ZlX
def Zi0:Code:=ZhX ZlX
theorem ZlY:C 4 ZlX s=thenV (C 4 Zl1 s) (C 4 Zi0):=qS
def ZhP:Code:=ZgE Zl1
def Zl2:Code:=ZhX Zl1
theorem ZiZ:C 4 Zl1 s=thenV (C 4 ZhP s) (C 4 Zl2):=qS
theorem Zx2:C 4 ZhP s=O 4 ZhP 0 s:=qG 7
theorem ZxZ:O 4 ZhP 0 s=Zbb s (some 61) (some {v:=R s 8}) (O 4 ZhP 1):=oR
theorem Zx0:O 4 ZhP 1 s=Zbb s (some 62) (xUn .not (R s 61)) (O 4 ZhP 2):=oR
theorem Zx1:O 4 ZhP 2 s=some [(.normal,s)]:=qe
def Zl3:Code:=ZgE Zl2
def Zt8:Code:=ZhX Zl2
theorem Zx3:C 4 Zl2 s=ZmY (R s 62) (C 4 Zl3) (C 4 Zt8) s:=qC
def ZgQ:Code:=ZgE Zl3
def Zt9:Code:=ZhX Zl3
theorem Zx4:C 4 Zl3 s=thenV (C 4 ZgQ s) (C 4 Zt9):=qS
theorem Zye:C 4 ZgQ s=O 4 ZgQ 0 s:=qG 8
theorem Zx6:O 4 ZgQ 0 s=Zbb s (some 63) (some {v:=R s 7}) (O 4 ZgQ 1):=oR
theorem Zx7:O 4 ZgQ 1 s=Zbb s (some 64) (ZmL Tryz.prog false s.h.get s.h.n .len [27] [R s 63]) (O 4 ZgQ 2):=oR
theorem Zx8:O 4 ZgQ 2 s=Zbb s (some 65) (val (ZmJ Tryz.prog .eql 3 false true (R s 64) (.int .i64 (0)))) (O 4 ZgQ 3):=oR
theorem Zx9:O 4 ZgQ 3 s=Zbb s (some 66) (some {v:=R s 65}) (O 4 ZgQ 4):=oR
theorem Zya:O 4 ZgQ 4 s=if Zmx (R s 66) true=true then ZCo (some 67) s (ZCi Tryz.prog hs ks 8 [] s.h) (O 4 ZgQ 5) else O 4 ZgQ 5 (ZmH s (some 67)):=cI
theorem Zyb:O 4 ZgQ 5 s=Zbb s (some 68) (ZCE (R s 66) (R s 67) (.bool false)) (O 4 ZgQ 6):=oR
theorem Zyc:O 4 ZgQ 6 s=Zbb s (some 6) (some {v:=R s 68}) (O 4 ZgQ 7):=oR
theorem Zyd:O 4 ZgQ 7 s=some [(.normal,s)]:=qe
theorem Zyf:C 4 Zt9 s=some [(.ret,s)]:=qR
theorem Zx5:C 4 Zt8 s=some [(.normal,s)]:=qK
def Zg2:Code:=ZgE Zi0
def Zl5:Code:=ZhX Zi0
theorem Zm3:C 4 Zi0 s=thenV (C 4 Zg2 s) (C 4 Zl5):=qS
theorem Zm4:C 4 Zg2 s=O 4 Zg2 0 s:=qG 9
theorem Zyg:O 4 Zg2 0 s=Zbb s (some 69) (val (ZmN (R s 3) 2)) (O 4 Zg2 1):=oR
theorem Zyh:O 4 Zg2 1 s=Zbb s (some 70) (Zi3 Tryz.prog 22 s.h.get (R s 69)) (O 4 Zg2 2):=oR
theorem Zyi:O 4 Zg2 2 s=Zbb s (some 71) (ZmL Tryz.prog false s.h.get s.h.n .len [22] [R s 70]) (O 4 Zg2 3):=oR
theorem Zyj:O 4 Zg2 3 s=Zbb s (some 72) (mkS Tryz.prog 4 s.h.n (R s 71) (R s 71)) (O 4 Zg2 4):=oR
theorem Zyk:O 4 Zg2 4 s=Zbb s (some 13) (some {v:=R s 72}) (O 4 Zg2 5):=oR
theorem Zyl:O 4 Zg2 5 s=some [(.normal,s)]:=qe
def Zl6:Code:=ZgE Zl5
def Zl7:Code:=ZhX Zl5
theorem Zm5:C 4 Zl5 s=thenV (C 4 Zl6 s) (C 4 Zl7):=qS
def ZhC:Code:=ZgE Zl6
def Zm8:Code:=ZhX Zl6
theorem Zm6:C 4 Zl6 s=thenV (C 4 ZhC s) (C 4 Zm8):=qS
theorem Zyq:C 4 ZhC s=O 4 ZhC 0 s:=qG 10
theorem Zym:O 4 ZhC 0 s=Zbb s (some 73) (some {v:=R s 7}) (O 4 ZhC 1):=oR
theorem Zyn:O 4 ZhC 1 s=Zbb s (some 74) (ZmL Tryz.prog false s.h.get s.h.n .len [27] [R s 73]) (O 4 ZhC 2):=oR
theorem Zyo:O 4 ZhC 2 s=Zbb s (some 75) (some {v:=(.int .i64 (0))}) (O 4 ZhC 3):=oR
theorem Zyp:O 4 ZhC 3 s=some [(.normal,s)]:=qe
def Zi1:Code:=ZgE Zm8
theorem Zm9:C 4 Zm8 s=ZmZ 0 (C 4 Zi1 s):=qB
def Zl8:Code:=ZgE Zi1
theorem Zua:C 4 Zi1 s=thenV (C 4 Zl8 s) (C 4 Zi1):=qL
def Zie:Code:=ZgE Zl8
def Zl9:Code:=ZhX Zl8
theorem Zyr:C 4 Zl8 s=thenV (C 4 Zie s) (C 4 Zl9):=qS
theorem Zyu:C 4 Zie s=O 4 Zie 0 s:=qG 11
theorem Zys:O 4 Zie 0 s=Zbb s (some 76) (val (ZmJ Tryz.prog .lss 3 false false (R s 75) (R s 74))) (O 4 Zie 1):=oR
theorem Zyt:O 4 Zie 1 s=some [(.normal,s)]:=qe
def Zma:Code:=ZgE Zl9
def Zmb:Code:=ZhX Zl9
theorem Zyv:C 4 Zl9 s=thenV (C 4 Zma s) (C 4 Zmb):=qS
def Zub:Code:=ZgE Zma
def Zuc:Code:=ZhX Zma
theorem Zyw:C 4 Zma s=ZmY (R s 76) (C 4 Zub) (C 4 Zuc) s:=qC
theorem Zyx:C 4 Zub s=some [(.normal,s)]:=qK
theorem Zyy:C 4 Zuc s=some [(.exit 0,s)]:=qE
def Znc:Code:=ZgE Zmb
def ZhQ:Code:=ZhX Zmb
theorem Znb:C 4 Zmb s=thenV (C 4 Znc s) (C 4 ZhQ):=qS
def Zmc:Code:=ZgE Znc
theorem Znd:C 4 Znc s=ZmZ 1 (C 4 Zmc s):=qB
def Zg3:Code:=ZgE Zmc
def Zmd:Code:=ZhX Zmc
theorem Znf:C 4 Zmc s=thenV (C 4 Zg3 s) (C 4 Zmd):=qS
theorem ZyI:C 4 Zg3 s=O 4 Zg3 0 s:=qG 12
theorem ZyC:O 4 Zg3 0 s=Zbb s (some 77) (some {v:=R s 75}) (O 4 Zg3 1):=oR
theorem ZyD:O 4 Zg3 1 s=Zbb s (some 78) (val (indexAddr Tryz.prog 27 (R s 73) (R s 75))) (O 4 Zg3 2):=oR
theorem ZyE:O 4 Zg3 2 s=Zbb s (some 79) (Zi3 Tryz.prog 3 s.h.get (R s 78)) (O 4 Zg3 3):=oR
theorem ZyF:O 4 Zg3 3 s=Zbb s (some 14) (some {v:=R s 77}) (O 4 Zg3 4):=oR
theorem ZyG:O 4 Zg3 4 s=Zbb s (some 15) (some {v:=R s 79}) (O 4 Zg3 5):=oR
theorem ZyH:O 4 Zg3 5 s=some [(.normal,s)]:=qe
def Zme:Code:=ZgE Zmd
def Zhh:Code:=ZhX Zmd
theorem Zng:C 4 Zmd s=thenV (C 4 Zme s) (C 4 Zhh):=qS
def zZD:Code:=ZgE Zme
def Zmf:Code:=ZhX Zme
theorem Znh:C 4 Zme s=thenV (C 4 zZD s) (C 4 Zmf):=qS
theorem Zzk:C 4 zZD s=O 4 zZD 0 s:=qG 13
theorem ZyY:O 4 zZD 0 s=Zbb s (some 80) (some {v:=R s 15}) (O 4 zZD 1):=oR
theorem ZyZ:O 4 zZD 1 s=Zbb s (some 81) (val (ZmJ Tryz.prog .lss 3 false true (R s 80) (.int .i64 (0)))) (O 4 zZD 2):=oR
theorem Zza:O 4 zZD 2 s=Zbb s (some 82) (some {v:=R s 81}) (O 4 zZD 3):=oR
theorem Zzd:O 4 zZD 3 s=if Zmx (R s 82) false=true then Zbb s (some 83) (some {v:=R s 15}) (O 4 zZD 4) else O 4 zZD 4 (ZmH s (some 83)):=oI
theorem Zze:O 4 zZD 4 s=if Zmx (R s 82) false=true then Zbb s (some 84) (some {v:=R s 13}) (O 4 zZD 5) else O 4 zZD 5 (ZmH s (some 84)):=oI
theorem Zzf:O 4 zZD 5 s=if Zmx (R s 82) false=true then Zbb s (some 85) (ZmL Tryz.prog false s.h.get s.h.n .len [39] [R s 84]) (O 4 zZD 6) else O 4 zZD 6 (ZmH s (some 85)):=oI
theorem Zzg:O 4 zZD 6 s=if Zmx (R s 82) false=true then Zbb s (some 86) (val (ZmJ Tryz.prog .geq 3 false false (R s 83) (R s 85))) (O 4 zZD 7) else O 4 zZD 7 (ZmH s (some 86)):=oI
theorem Zzh:O 4 zZD 7 s=Zbb s (some 87) (ZCE (R s 82) (.bool true) (R s 86)) (O 4 zZD 8):=oR
theorem Zzi:O 4 zZD 8 s=Zbb s (some 88) (some {v:=R s 87}) (O 4 zZD 9):=oR
theorem Zzj:O 4 zZD 9 s=if Zmx (R s 88) false=true then Zbb s (some 89) (some {v:=R s 14}) (O 4 zZD 10) else O 4 zZD 10 (ZmH s (some 89)):=oI
theorem Zy0:O 4 zZD 10 s=if Zmx (R s 88) false=true then Zbb s (some 90) (val (ZmJ Tryz.prog .gtr 3 false true (R s 89) (.int .i64 (0)))) (O 4 zZD 11) else O 4 zZD 11 (ZmH s (some 90)):=oI
theorem Zy1:O 4 zZD 11 s=if Zmx (R s 88) false=true then Zbb s (some 91) (some {v:=R s 90}) (O 4 zZD 12) else O 4 zZD 12 (ZmH s (some 91)):=oI
theorem Zy2:O 4 zZD 12 s=if Zmx (R s 91) true=true then Zbb s (some 92) (some {v:=R s 7}) (O 4 zZD 13) else O 4 zZD 13 (ZmH s (some 92)):=oI
theorem Zy3:O 4 zZD 13 s=if Zmx (R s 91) true=true then Zbb s (some 93) (some {v:=R s 14}) (O 4 zZD 14) else O 4 zZD 14 (ZmH s (some 93)):=oI
theorem Zy4:O 4 zZD 14 s=if Zmx (R s 91) true=true then Zbb s (some 94) (val (ZmJ Tryz.prog .sub 3 false true (R s 93) (.int .i64 (1)))) (O 4 zZD 15) else O 4 zZD 15 (ZmH s (some 94)):=oI
theorem Zy5:O 4 zZD 15 s=if Zmx (R s 91) true=true then Zbb s (some 95) (val (indexAddr Tryz.prog 27 (R s 92) (R s 94))) (O 4 zZD 16) else O 4 zZD 16 (ZmH s (some 95)):=oI
theorem Zy6:O 4 zZD 16 s=if Zmx (R s 91) true=true then Zbb s (some 96) (Zi3 Tryz.prog 3 s.h.get (R s 95)) (O 4 zZD 17) else O 4 zZD 17 (ZmH s (some 96)):=oI
theorem Zy7:O 4 zZD 17 s=if Zmx (R s 91) true=true then Zbb s (some 97) (some {v:=R s 15}) (O 4 zZD 18) else O 4 zZD 18 (ZmH s (some 97)):=oI
theorem Zy8:O 4 zZD 18 s=if Zmx (R s 91) true=true then Zbb s (some 98) (val (ZmJ Tryz.prog .geq 3 false false (R s 96) (R s 97))) (O 4 zZD 19) else O 4 zZD 19 (ZmH s (some 98)):=oI
theorem Zy9:O 4 zZD 19 s=if Zmx (R s 88) false=true then Zbb s (some 99) (ZCE (R s 91) (R s 98) (.bool false)) (O 4 zZD 20) else O 4 zZD 20 (ZmH s (some 99)):=oI
theorem Zzb:O 4 zZD 20 s=Zbb s (some 100) (ZCE (R s 88) (.bool true) (R s 99)) (O 4 zZD 21):=oR
theorem Zzc:O 4 zZD 21 s=some [(.normal,s)]:=qe
def Zmg:Code:=ZgE Zmf
def Zud:Code:=ZhX Zmf
theorem Zzl:C 4 Zmf s=ZmY (R s 100) (C 4 Zmg) (C 4 Zud) s:=qC
theorem Zzm:C 4 Zud s=some [(.normal,s)]:=qK
theorem Zni:C 4 Zhh s=O 4 Zhh 0 s:=qG 15
theorem ZyT:O 4 Zhh 0 s=Zbb s (some 101) (some {v:=R s 13}) (O 4 Zhh 1):=oR
theorem ZyU:O 4 Zhh 1 s=Zbb s (some 102) (some {v:=R s 15}) (O 4 Zhh 2):=oR
theorem ZyV:O 4 Zhh 2 s=Zbb s (some 103) (val (indexAddr Tryz.prog 39 (R s 101) (R s 102))) (O 4 Zhh 3):=oR
theorem ZyW:O 4 Zhh 3 s=Zbb s none (ZnB Tryz.prog 4 s.h.get (R s 103) (.bool true)) (O 4 Zhh 4):=oR
theorem ZyX:O 4 Zhh 4 s=some [(.normal,s)]:=qe
theorem Zne:C 4 ZhQ s=O 4 ZhQ 0 s:=qG 16
theorem Zyz:O 4 ZhQ 0 s=Zbb s (some 104) (val (ZmJ Tryz.prog .add 3 false true (R s 75) (.int .i64 (1)))) (O 4 ZhQ 1):=oR
theorem ZyA:O 4 ZhQ 1 s=Zbb s (some 75) (some {v:=R s 104}) (O 4 ZhQ 2):=oR
theorem ZyB:O 4 ZhQ 2 s=some [(.normal,s)]:=qe
def Zmh:Code:=ZgE Zl7
def Zmi:Code:=ZhX Zl7
theorem Zm7:C 4 Zl7 s=thenV (C 4 Zmh s) (C 4 Zmi):=qS
def ZgB:Code:=ZgE Zmh
def Zmj:Code:=ZhX Zmh
theorem Znj:C 4 Zmh s=thenV (C 4 ZgB s) (C 4 Zmj):=qS
theorem Zzz:C 4 ZgB s=O 4 ZgB 0 s:=qG 17
theorem Zzn:O 4 ZgB 0 s=Zbb s (some 105) (val (ZmN (R s 3) 0)) (O 4 ZgB 1):=oR
theorem Zzo:O 4 ZgB 1 s=Zbb s (some 106) (Zi3 Tryz.prog 3 s.h.get (R s 105)) (O 4 ZgB 2):=oR
theorem Zzr:O 4 ZgB 2 s=Zbb s (some 107) (val (ZmN (R s 3) 1)) (O 4 ZgB 3):=oR
theorem Zzs:O 4 ZgB 3 s=Zbb s (some 108) (Zi3 Tryz.prog 22 s.h.get (R s 107)) (O 4 ZgB 4):=oR
theorem Zzt:O 4 ZgB 4 s=Zbb s (some 109) (val (ZmN (R s 3) 2)) (O 4 ZgB 5):=oR
theorem Zzu:O 4 ZgB 5 s=Zbb s (some 110) (Zi3 Tryz.prog 22 s.h.get (R s 109)) (O 4 ZgB 6):=oR
theorem Zzv:O 4 ZgB 6 s=Zbb s (some 111) (some {v:=R s 13}) (O 4 ZgB 7):=oR
theorem Zzw:O 4 ZgB 7 s=Zbb s (some 112) (some {v:=R s 1}) (O 4 ZgB 8):=oR
theorem Zzx:O 4 ZgB 8 s=Zbb s (some 113) (some {v:=R s 2}) (O 4 ZgB 9):=oR
theorem Zzy:O 4 ZgB 9 s=ZCo (some 114) s (ZCi Tryz.prog hs ks 14 [R s 106,R s 108,R s 110,R s 111,R s 112,R s 113] s.h) (O 4 ZgB 10):=cR
theorem Zzp:O 4 ZgB 10 s=Zbb s (some 115) (xUn .not (R s 114)) (O 4 ZgB 11):=oR
theorem Zzq:O 4 ZgB 11 s=some [(.normal,s)]:=qe
def Zmk:Code:=ZgE Zmj
def Zue:Code:=ZhX Zmj
theorem ZzB:C 4 Zmj s=ZmY (R s 115) (C 4 Zmk) (C 4 Zue) s:=qC
theorem ZzC:C 4 Zue s=some [(.normal,s)]:=qK
def Zml:Code:=ZgE Zmi
def Zmm:Code:=ZhX Zmi
theorem Znk:C 4 Zmi s=thenV (C 4 Zml s) (C 4 Zmm):=qS
def ZhD:Code:=ZgE Zml
def Znn:Code:=ZhX Zml
theorem Znl:C 4 Zml s=thenV (C 4 ZhD s) (C 4 Znn):=qS
theorem ZzH:C 4 ZhD s=O 4 ZhD 0 s:=qG 19
theorem ZzD:O 4 ZhD 0 s=Zbb s (some 116) (some {v:=R s 7}) (O 4 ZhD 1):=oR
theorem ZzE:O 4 ZhD 1 s=Zbb s (some 117) (ZmL Tryz.prog false s.h.get s.h.n .len [27] [R s 116]) (O 4 ZhD 2):=oR
theorem ZzF:O 4 ZhD 2 s=Zbb s (some 118) (some {v:=(.int .i64 (0))}) (O 4 ZhD 3):=oR
theorem ZzG:O 4 ZhD 3 s=some [(.normal,s)]:=qe
def Zi2:Code:=ZgE Znn
theorem Zno:C 4 Znn s=ZmZ 2 (C 4 Zi2 s):=qB
def Zmn:Code:=ZgE Zi2
theorem Zuf:C 4 Zi2 s=thenV (C 4 Zmn s) (C 4 Zi2):=qL
def Zif:Code:=ZgE Zmn
def Zmo:Code:=ZhX Zmn
theorem ZzJ:C 4 Zmn s=thenV (C 4 Zif s) (C 4 Zmo):=qS
theorem ZzM:C 4 Zif s=O 4 Zif 0 s:=qG 20
theorem ZzK:O 4 Zif 0 s=Zbb s (some 119) (val (ZmJ Tryz.prog .lss 3 false false (R s 118) (R s 117))) (O 4 Zif 1):=oR
theorem ZzL:O 4 Zif 1 s=some [(.normal,s)]:=qe
def Zmp:Code:=ZgE Zmo
def Zmq:Code:=ZhX Zmo
theorem ZzN:C 4 Zmo s=thenV (C 4 Zmp s) (C 4 Zmq):=qS
def Zug:Code:=ZgE Zmp
def Zuh:Code:=ZhX Zmp
theorem ZzO:C 4 Zmp s=ZmY (R s 119) (C 4 Zug) (C 4 Zuh) s:=qC
theorem ZzP:C 4 Zug s=some [(.normal,s)]:=qK
theorem ZzQ:C 4 Zuh s=some [(.exit 2,s)]:=qE
def Znq:Code:=ZgE Zmq
def ZhR:Code:=ZhX Zmq
theorem Znp:C 4 Zmq s=thenV (C 4 Znq s) (C 4 ZhR):=qS
def Zmr:Code:=ZgE Znq
theorem Znr:C 4 Znq s=ZmZ 3 (C 4 Zmr s):=qB
def ZhE:Code:=ZgE Zmr
def Zms:Code:=ZhX Zmr
theorem Znt:C 4 Zmr s=thenV (C 4 ZhE s) (C 4 Zms):=qS
theorem ZzZ:C 4 ZhE s=O 4 ZhE 0 s:=qG 21
theorem ZzV:O 4 ZhE 0 s=Zbb s (some 120) (val (indexAddr Tryz.prog 27 (R s 116) (R s 118))) (O 4 ZhE 1):=oR
theorem ZzW:O 4 ZhE 1 s=Zbb s (some 121) (Zi3 Tryz.prog 3 s.h.get (R s 120)) (O 4 ZhE 2):=oR
theorem ZzX:O 4 ZhE 2 s=Zbb s (some 17) (some {v:=R s 121}) (O 4 ZhE 3):=oR
theorem ZzY:O 4 ZhE 3 s=some [(.normal,s)]:=qe
def Zhi:Code:=ZgE Zms
def Zmt:Code:=ZhX Zms
theorem Znu:C 4 Zms s=thenV (C 4 Zhi s) (C 4 Zmt):=qS
theorem Znv:C 4 Zhi s=O 4 Zhi 0 s:=qG 22
theorem Zz0:O 4 Zhi 0 s=Zbb s (some 122) (some {v:=R s 13}) (O 4 Zhi 1):=oR
theorem Zz1:O 4 Zhi 1 s=Zbb s (some 123) (some {v:=R s 17}) (O 4 Zhi 2):=oR
theorem Zz2:O 4 Zhi 2 s=Zbb s (some 124) (val (indexAddr Tryz.prog 39 (R s 122) (R s 123))) (O 4 Zhi 3):=oR
theorem Zz3:O 4 Zhi 3 s=Zbb s none (ZnB Tryz.prog 4 s.h.get (R s 124) (.bool false)) (O 4 Zhi 4):=oR
theorem Zz4:O 4 Zhi 4 s=some [(.normal,s)]:=qe
def Zmu:Code:=ZgE Zmt
def Zhj:Code:=ZhX Zmt
theorem Znw:C 4 Zmt s=thenV (C 4 Zmu s) (C 4 Zhj):=qS
def ZgD:Code:=ZgE Zmu
def Zmv:Code:=ZhX Zmu
theorem Znx:C 4 Zmu s=thenV (C 4 ZgD s) (C 4 Zmv):=qS
theorem Znz:C 4 ZgD s=O 4 ZgD 0 s:=qG 23
theorem ZAa:O 4 ZgD 0 s=Zbb s (some 125) (val (ZmN (R s 3) 0)) (O 4 ZgD 1):=oR
theorem ZAb:O 4 ZgD 1 s=Zbb s (some 126) (Zi3 Tryz.prog 3 s.h.get (R s 125)) (O 4 ZgD 2):=oR
theorem ZAd:O 4 ZgD 2 s=Zbb s (some 127) (val (ZmN (R s 3) 1)) (O 4 ZgD 3):=oR
theorem ZAe:O 4 ZgD 3 s=Zbb s (some 128) (Zi3 Tryz.prog 22 s.h.get (R s 127)) (O 4 ZgD 4):=oR
theorem ZAf:O 4 ZgD 4 s=Zbb s (some 129) (val (ZmN (R s 3) 2)) (O 4 ZgD 5):=oR
theorem ZAg:O 4 ZgD 5 s=Zbb s (some 130) (Zi3 Tryz.prog 22 s.h.get (R s 129)) (O 4 ZgD 6):=oR
theorem ZAh:O 4 ZgD 6 s=Zbb s (some 131) (some {v:=R s 13}) (O 4 ZgD 7):=oR
theorem ZAi:O 4 ZgD 7 s=Zbb s (some 132) (some {v:=R s 1}) (O 4 ZgD 8):=oR
theorem ZAj:O 4 ZgD 8 s=Zbb s (some 133) (some {v:=R s 2}) (O 4 ZgD 9):=oR
theorem ZAk:O 4 ZgD 9 s=ZCo (some 134) s (ZCi Tryz.prog hs ks 14 [R s 126,R s 128,R s 130,R s 131,R s 132,R s 133] s.h) (O 4 ZgD 10):=cR
theorem ZAc:O 4 ZgD 10 s=some [(.normal,s)]:=qe
def Zmw:Code:=ZgE Zmv
def Zui:Code:=ZhX Zmv
theorem ZnA:C 4 Zmv s=ZmY (R s 134) (C 4 Zmw) (C 4 Zui) s:=qC
theorem ZAl:C 4 Zui s=some [(.normal,s)]:=qK
theorem Zny:C 4 Zhj s=O 4 Zhj 0 s:=qG 25
theorem Zz5:O 4 Zhj 0 s=Zbb s (some 135) (some {v:=R s 13}) (O 4 Zhj 1):=oR
theorem Zz6:O 4 Zhj 1 s=Zbb s (some 136) (some {v:=R s 17}) (O 4 Zhj 2):=oR
theorem Zz7:O 4 Zhj 2 s=Zbb s (some 137) (val (indexAddr Tryz.prog 39 (R s 135) (R s 136))) (O 4 Zhj 3):=oR
theorem Zz8:O 4 Zhj 3 s=Zbb s none (ZnB Tryz.prog 4 s.h.get (R s 137) (.bool true)) (O 4 Zhj 4):=oR
theorem Zz9:O 4 Zhj 4 s=some [(.normal,s)]:=qe
theorem Zns:C 4 ZhR s=O 4 ZhR 0 s:=qG 26
theorem ZzR:O 4 ZhR 0 s=Zbb s (some 138) (val (ZmJ Tryz.prog .add 3 false true (R s 118) (.int .i64 (1)))) (O 4 ZhR 1):=oR
theorem ZzS:O 4 ZhR 1 s=Zbb s (some 118) (some {v:=R s 138}) (O 4 ZhR 2):=oR
theorem ZzT:O 4 ZhR 2 s=some [(.normal,s)]:=qe
def ZhS:Code:=ZgE Zmm
def Zuj:Code:=ZhX Zmm
theorem Znm:C 4 Zmm s=thenV (C 4 ZhS s) (C 4 Zuj):=qS
theorem ZAt:C 4 ZhS s=O 4 ZhS 0 s:=qG 27
theorem ZAq:O 4 ZhS 0 s=ZCo (some 139) s (ZCi Tryz.prog hs ks 8 [] s.h) (O 4 ZhS 1):=cR
theorem ZAr:O 4 ZhS 1 s=Zbb s (some 6) (some {v:=R s 139}) (O 4 ZhS 2):=oR
theorem ZAs:O 4 ZhS 2 s=some [(.normal,s)]:=qe
theorem ZAu:C 4 Zuj s=some [(.ret,s)]:=qR
end
end
end Go.Proofs.YtdlaladdeelegaaGreat.Cg
end
