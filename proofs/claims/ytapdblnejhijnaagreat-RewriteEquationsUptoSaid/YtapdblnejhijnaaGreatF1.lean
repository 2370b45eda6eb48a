/- Equations of the code of three functions, walked by hand. -/
import Derived.Test.YtapdblnejhijnaaGreatE1
import Derived.KernelRfl
set_option linter.all false
noncomputable section
namespace Go.Proofs.YtapdblnejhijnaaGreat.Sp
section
open Go Go.Ae
section
abbrev hs:Hint:=Eq.hint0
def ks:Known where
 call f args:=if f=6∧args=[] then some (.bool true) else none
 idle _:=false
abbrev R (s:St) (t:Nat):V:=T.get ZmM s.regs t
abbrev C (f:Nat) (c:Code):St→Option (List (Ex×St)):=Qc Tryz.prog hs ks ⟨f,none⟩ c
abbrev O (f:Nat) (c:Code) (j:Nat):St→Option (List (Ex×St)):=Qo Tryz.prog hs ks c j ⟨f,none⟩
abbrev D (f:Nat) (c:Code) (bef:List Nat) (j:Nat):List (Nat×Foot)→St→Option (List (Ex×St)):=Qd Tryz.prog hs ks c bef j ⟨f,none⟩
end
section
variable (dn:List (Nat×Foot)) (s:St)
def k27:Code:=Tryz.f27.body.getD .skip
theorem zSv (args:List V) (ha:args.length≤29) (h:H):(EV Tryz.prog hs ks).call 27 args h=Zm1 Tryz.prog hs ks Tryz.f27 (C 27 k27 (S 29 (ZCl args 0 fun _=> ZmM) [] h)):=Qu Tryz.func27 (by kernel_rfl) (by kernel_rfl) (by decide) rfl ha h
theorem zxT (f:Nat→V) (h:H):Zm1 Tryz.prog hs ks Tryz.f27 (some [(.ret,S 29 f [] h)])=ZCp (ZCk Tryz.prog (S 29 f [] h) [.cell 2 26,.tmp 3]) h:=Zc (by kernel_rfl) (Or.inl rfl) _ _
theorem ZNQ (f:Nat→V) (h:H):Zm1 Tryz.prog hs ks Tryz.f27 (some [(.normal,S 29 f [] h)])=ZCp (ZCk Tryz.prog (S 29 f [] h) [.cell 2 26,.tmp 3]) h:=Zc (by kernel_rfl) (Or.inr rfl) _ _
def zcK:Code:=ZgE k27
def zuU:Code:=ZhX k27
theorem zxS:C 27 k27 s=thenV (C 27 zcK s) (C 27 zuU):=qS
theorem zxP:C 27 zcK s=O 27 zcK 0 s:=qG 0
theorem zBk:O 27 zcK 0 s=Zbb s (some 1) (some {v:=.ptr s.h.n 0,nw:=[.row 0 (V.cells (R s 0))]}) (O 27 zcK 1):=oR
theorem zBl:O 27 zcK 1 s=Zbb s (some 2) (some {v:=.ptr s.h.n 0,nw:=[.row 0 [.int .i64 (0),.int .i64 (0),.str ⟨#[]⟩,.nils,.nils]]}) (O 27 zcK 2):=oR
theorem ZNm:O 27 zcK 2 s=Zbb s (some 3) (some {v:=(.nils)}) (O 27 zcK 3):=oR
theorem ZNn:O 27 zcK 3 s=some [(.normal,s)]:=qe
def zaH:Code:=ZgE zuU
def zuY:Code:=ZhX zuU
theorem zdJ:C 27 zuU s=thenV (C 27 zaH s) (C 27 zuY):=qS
theorem zdK:C 27 zaH s=O 27 zaH 0 s:=qG 1
theorem zBP:O 27 zaH 0 s=Zbb s (some 4) (some {v:=(.nils)}) (O 27 zaH 1):=oR
theorem zBQ:O 27 zaH 1 s=some [(.normal,s)]:=qe
def zuZ:Code:=ZgE zuY
def zu0:Code:=ZhX zuY
theorem zdL:C 27 zuY s=thenV (C 27 zuZ s) (C 27 zu0):=qS
def zcL:Code:=ZgE zuZ
theorem zdM:C 27 zuZ s=ZmZ 0 (C 27 zcL s):=qB
def zxR:Code:=ZgE zcL
theorem ZQt:C 27 zcL s=thenV (C 27 zxR s) (C 27 zcL):=qL
def zj7:Code:=ZgE zxR
def zu1:Code:=ZhX zxR
theorem zdO:C 27 zxR s=thenV (C 27 zj7 s) (C 27 zu1):=qS
def zuV:Code:=ZgE zj7
def zuW:Code:=ZhX zj7
theorem ZNP:C 27 zj7 s=thenV (C 27 zuV s) (C 27 zuW):=qS
theorem zBm:C 27 zuV s=O 27 zuV 0 s:=qG 2
theorem ZNo:O 27 zuV 0 s=Zbb s (some 5) (val (ZmN (R s 1) 0)) (O 27 zuV 1):=oR
theorem ZNp:O 27 zuV 1 s=Zbb s (some 6) (Zi3 Tryz.prog 3 s.h.get (R s 5)) (O 27 zuV 2):=oR
theorem ZNq:O 27 zuV 2 s=Zbb s (some 7) (val (ZmJ Tryz.prog .eql 3 false true (R s 6) (.int .i64 (4)))) (O 27 zuV 3):=oR
theorem ZNr:O 27 zuV 3 s=Zbb s (some 8) (some {v:=R s 7}) (O 27 zuV 4):=oR
theorem ZNs:O 27 zuV 4 s=if Zmx (R s 8) true=true then Zbb s (some 9) (val (ZmN (R s 1) 4)) (O 27 zuV 5) else O 27 zuV 5 (ZmH s (some 9)):=oI
theorem ZNt:O 27 zuV 5 s=if Zmx (R s 8) true=true then Zbb s (some 10) (Zi3 Tryz.prog 24 s.h.get (R s 9)) (O 27 zuV 6) else O 27 zuV 6 (ZmH s (some 10)):=oI
theorem ZNu:O 27 zuV 6 s=if Zmx (R s 8) true=true then Zbb s (some 11) (ZmL Tryz.prog false s.h.get s.h.n .len [24] [R s 10]) (O 27 zuV 7) else O 27 zuV 7 (ZmH s (some 11)):=oI
theorem ZNv:O 27 zuV 7 s=if Zmx (R s 8) true=true then Zbb s (some 12) (val (ZmJ Tryz.prog .eql 3 false true (R s 11) (.int .i64 (2)))) (O 27 zuV 8) else O 27 zuV 8 (ZmH s (some 12)):=oI
theorem ZNw:O 27 zuV 8 s=Zbb s (some 13) (ZCE (R s 8) (R s 12) (.bool false)) (O 27 zuV 9):=oR
theorem ZNx:O 27 zuV 9 s=some [(.normal,s)]:=qe
def zaF:Code:=ZgE zuW
def zuX:Code:=ZhX zuW
theorem zBn:C 27 zuW s=ZmY (R s 13) (C 27 zaF) (C 27 zuX) s:=qC
theorem zBs:C 27 zaF s=some [(.normal,s)]:=qK
theorem zBt:C 27 zuX s=some [(.exit 0,s)]:=qE
def zBu:Code:=ZgE zu1
theorem zBW:C 27 zu1 s=ZmZ 1 (C 27 zBu s):=qB
def zBw:Code:=ZgE zBu
def zxQ:Code:=ZhX zBu
theorem zBv:C 27 zBu s=thenV (C 27 zBw s) (C 27 zxQ):=qS
theorem zBx:C 27 zBw s=O 27 zBw 0 s:=qG 3
theorem ZNy:O 27 zBw 0 s=Zbb s (some 14) (some {v:=R s 4}) (O 27 zBw 1):=oR
theorem ZNz:O 27 zBw 1 s=Zbb s (some 15) (val (ZmN (R s 1) 4)) (O 27 zBw 2):=oR
theorem ZNA:O 27 zBw 2 s=Zbb s (some 16) (Zi3 Tryz.prog 24 s.h.get (R s 15)) (O 27 zBw 3):=oR
theorem ZNB:O 27 zBw 3 s=Zbb s (some 17) (val (indexAddr Tryz.prog 24 (R s 16) (.int .i64 (1)))) (O 27 zBw 4):=oR
theorem ZNC:O 27 zBw 4 s=Zbb s (some 18) (Zi3 Tryz.prog 26 s.h.get (R s 17)) (O 27 zBw 5):=oR
theorem ZND:O 27 zBw 5 s=Zbb s (some 19) (ZDl Tryz.prog false 24 1 [(0,(R s 18))] s.h.n) (O 27 zBw 6):=oR
theorem ZNE:O 27 zBw 6 s=Zbb s (some 20) (ZmL Tryz.prog true s.h.get s.h.n .append [24,24] [R s 14,R s 19]) (O 27 zBw 7):=oR
theorem ZNF:O 27 zBw 7 s=Zbb s (some 4) (some {v:=R s 20}) (O 27 zBw 8):=oR
theorem ZNG:O 27 zBw 8 s=some [(.normal,s)]:=qe
theorem zdI:C 27 zxQ s=O 27 zxQ 0 s:=qG 4
theorem ZNH:O 27 zxQ 0 s=Zbb s (some 21) (val (ZmN (R s 1) 4)) (O 27 zxQ 1):=oR
theorem ZNI:O 27 zxQ 1 s=Zbb s (some 22) (Zi3 Tryz.prog 24 s.h.get (R s 21)) (O 27 zxQ 2):=oR
theorem ZNJ:O 27 zxQ 2 s=Zbb s (some 23) (val (indexAddr Tryz.prog 24 (R s 22) (.int .i64 (0)))) (O 27 zxQ 3):=oR
theorem ZNK:O 27 zxQ 3 s=Zbb s (some 24) (Zi3 Tryz.prog 26 s.h.get (R s 23)) (O 27 zxQ 4):=oR
theorem ZNL:O 27 zxQ 4 s=Zbb s none (ZnB Tryz.prog 26 s.h.get (R s 1) (R s 24)) (O 27 zxQ 5):=oR
theorem ZNM:O 27 zxQ 5 s=some [(.normal,s)]:=qe
def zaG:Code:=ZgE zu0
def Q7:Code:=ZhX zu0
theorem zdN:C 27 zu0 s=thenV (C 27 zaG s) (C 27 Q7):=qS
theorem zBC:C 27 zaG s=O 27 zaG 0 s:=qG 5
theorem zBy:O 27 zaG 0 s=Zbb s (some 25) (some {v:=R s 4}) (O 27 zaG 1):=oR
theorem zBz:O 27 zaG 1 s=ZCo (some 26) s (ZCi Tryz.prog hs ks 68 [R s 25] s.h) (O 27 zaG 2):=cR
theorem zBA:O 27 zaG 2 s=some [(.normal,s)]:=qe
def zbx:Code:=ZgE Q7
def zBN:Code:=ZhX Q7
theorem zBI:C 27 Q7 s=thenV (C 27 zbx s) (C 27 zBN):=qS
theorem zBM:C 27 zbx s=O 27 zbx 0 s:=qG 6
theorem zBJ:O 27 zbx 0 s=Zbb s (some 27) (Zi3 Tryz.prog 26 s.h.get (R s 1)) (O 27 zbx 1):=oR
theorem zBK:O 27 zbx 1 s=Zbb s (some 28) (some {v:=R s 4}) (O 27 zbx 2):=oR
theorem zBL:O 27 zbx 2 s=Zbb s none (ZnB Tryz.prog 26 s.h.get (R s 2) (R s 27)) (O 27 zbx 3):=oR
theorem ZNN:O 27 zbx 3 s=Zbb s (some 3) (some {v:=R s 28}) (O 27 zbx 4):=oR
theorem ZNO:O 27 zbx 4 s=some [(.normal,s)]:=qe
theorem zBO:C 27 zBN s=some [(.ret,s)]:=qR
def k68:Code:=Tryz.f68.body.getD .skip
theorem ZW9 (args:List V) (ha:args.length≤28) (h:H):(EV Tryz.prog hs ks).call 68 args h=Zm1 Tryz.prog hs ks Tryz.f68 (C 68 k68 (S 28 (ZCl args 0 fun _=> ZmM) [] h)):=Qu Tryz.func68 (by kernel_rfl) (by kernel_rfl) (by decide) rfl ha h
theorem ZRi (f:Nat→V) (h:H):Zm1 Tryz.prog hs ks Tryz.f68 (some [(.ret,S 28 f [] h)])=ZCp (ZCk Tryz.prog (S 28 f [] h) []) h:=Zc (by kernel_rfl) (Or.inl rfl) _ _
theorem ZOw (f:Nat→V) (h:H):Zm1 Tryz.prog hs ks Tryz.f68 (some [(.normal,S 28 f [] h)])=ZCp (ZCk Tryz.prog (S 28 f [] h) []) h:=Zc (by kernel_rfl) (Or.inr rfl) _ _
def ZLc:Code:=ZgE k68
def ZQC:Code:=ZhX k68
theorem ZRh:C 68 k68 s=thenV (C 68 ZLc s) (C 68 ZQC):=qS
theorem ZQB:C 68 ZLc s=O 68 ZLc 0 s:=qG 0
theorem ZQv:O 68 ZLc 0 s=Zbb s (some 4) (some {v:=R s 0}) (O 68 ZLc 1):=oR
theorem ZQw:O 68 ZLc 1 s=Zbb s (some 5) (ZmL Tryz.prog false s.h.get s.h.n .len [24] [R s 4]) (O 68 ZLc 2):=oR
theorem ZQx:O 68 ZLc 2 s=Zbb s (some 6) (val (ZmJ Tryz.prog .sub 3 false true (R s 5) (.int .i64 (1)))) (O 68 ZLc 3):=oR
theorem ZQy:O 68 ZLc 3 s=Zbb s (some 2) (some {v:=(.int .i64 (0))}) (O 68 ZLc 4):=oR
theorem ZQz:O 68 ZLc 4 s=Zbb s (some 3) (some {v:=R s 6}) (O 68 ZLc 5):=oR
theorem ZQA:O 68 ZLc 5 s=some [(.normal,s)]:=qe
def ZL9:Code:=ZgE ZQC
theorem ZQ5:C 68 ZQC s=ZmZ 0 (C 68 ZL9 s):=qB
def ZPh:Code:=ZgE ZL9
theorem ZW8:C 68 ZL9 s=thenV (C 68 ZPh s) (C 68 ZL9):=qL
def ZPi:Code:=ZgE ZPh
def ZPj:Code:=ZhX ZPh
theorem ZQ6:C 68 ZPh s=thenV (C 68 ZPi s) (C 68 ZPj):=qS
def ZLL:Code:=ZgE ZPi
def ZPk:Code:=ZhX ZPi
theorem ZQ7:C 68 ZPi s=thenV (C 68 ZLL s) (C 68 ZPk):=qS
theorem ZRd:C 68 ZLL s=O 68 ZLL 0 s:=qG 1
theorem ZQ9:O 68 ZLL 0 s=Zbb s (some 7) (some {v:=R s 2}) (O 68 ZLL 1):=oR
theorem ZRa:O 68 ZLL 1 s=Zbb s (some 8) (some {v:=R s 3}) (O 68 ZLL 2):=oR
theorem ZRb:O 68 ZLL 2 s=Zbb s (some 9) (val (ZmJ Tryz.prog .lss 3 false false (R s 7) (R s 8))) (O 68 ZLL 3):=oR
theorem ZRc:O 68 ZLL 3 s=some [(.normal,s)]:=qe
def ZS6:Code:=ZgE ZPk
def ZS7:Code:=ZhX ZPk
theorem ZRe:C 68 ZPk s=ZmY (R s 9) (C 68 ZS6) (C 68 ZS7) s:=qC
theorem ZRf:C 68 ZS6 s=some [(.normal,s)]:=qK
theorem ZRg:C 68 ZS7 s=some [(.exit 0,s)]:=qE
def ZQD:Code:=ZgE ZPj
def ZK2:Code:=ZhX ZPj
theorem ZQ8:C 68 ZPj s=thenV (C 68 ZQD s) (C 68 ZK2):=qS
def ZGP:Code:=ZgE ZQD
theorem ZQE:C 68 ZQD s=ZmZ 1 (C 68 ZGP s):=qB
def ZGH:List Nat:=[0,0,0,0,0,0,48,112,0,0,768,1792,4083,8179,16383,32767]
theorem ZQ4:C 68 ZGP s=D 68 ZGP ZGH 0 [] s:=qD 3
theorem ZQN:D 68 ZGP ZGH 0 dn s=ZhW s (some 14) 0 ZGH dn (some {v:=R s 0}) (D 68 ZGP ZGH 1):=dR
theorem ZQO:D 68 ZGP ZGH 1 dn s=ZhW s (some 15) 1 ZGH dn (some {v:=R s 2}) (D 68 ZGP ZGH 2):=dR
theorem ZQW:D 68 ZGP ZGH 2 dn s=ZhW s (some 16) 2 ZGH dn (some {v:=R s 0}) (D 68 ZGP ZGH 3):=dR
theorem ZQX:D 68 ZGP ZGH 3 dn s=ZhW s (some 17) 3 ZGH dn (some {v:=R s 3}) (D 68 ZGP ZGH 4):=dR
theorem ZQY:D 68 ZGP ZGH 4 dn s=ZhW s (some 18) 4 ZGH dn (some {v:=R s 0}) (D 68 ZGP ZGH 5):=dR
theorem ZQZ:D 68 ZGP ZGH 5 dn s=ZhW s (some 19) 5 ZGH dn (some {v:=R s 3}) (D 68 ZGP ZGH 6):=dR
theorem ZQ0:D 68 ZGP ZGH 6 dn s=ZhW s (some 20) 6 ZGH dn (val (indexAddr Tryz.prog 24 (R s 18) (R s 19))) (D 68 ZGP ZGH 7):=dR
theorem ZQ1:D 68 ZGP ZGH 7 dn s=ZhW s (some 21) 7 ZGH dn (Zi3 Tryz.prog 26 s.h.get (R s 20)) (D 68 ZGP ZGH 8):=dR
theorem ZQ2:D 68 ZGP ZGH 8 dn s=ZhW s (some 22) 8 ZGH dn (some {v:=R s 0}) (D 68 ZGP ZGH 9):=dR
theorem ZQ3:D 68 ZGP ZGH 9 dn s=ZhW s (some 23) 9 ZGH dn (some {v:=R s 2}) (D 68 ZGP ZGH 10):=dR
theorem ZQP:D 68 ZGP ZGH 10 dn s=ZhW s (some 24) 10 ZGH dn (val (indexAddr Tryz.prog 24 (R s 22) (R s 23))) (D 68 ZGP ZGH 11):=dR
theorem ZQQ:D 68 ZGP ZGH 11 dn s=ZhW s (some 25) 11 ZGH dn (Zi3 Tryz.prog 26 s.h.get (R s 24)) (D 68 ZGP ZGH 12):=dR
theorem ZQR:D 68 ZGP ZGH 12 dn s=ZhW s (some 26) 12 ZGH dn (val (indexAddr Tryz.prog 24 (R s 14) (R s 15))) (D 68 ZGP ZGH 13):=dR
theorem ZQS:D 68 ZGP ZGH 13 dn s=ZhW s none 13 ZGH dn (ZnB Tryz.prog 26 s.h.get (R s 26) (R s 21)) (D 68 ZGP ZGH 14):=dR
theorem ZQT:D 68 ZGP ZGH 14 dn s=ZhW s (some 27) 14 ZGH dn (val (indexAddr Tryz.prog 24 (R s 16) (R s 17))) (D 68 ZGP ZGH 15):=dR
theorem ZQU:D 68 ZGP ZGH 15 dn s=ZhW s none 15 ZGH dn (ZnB Tryz.prog 26 s.h.get (R s 27) (R s 25)) (D 68 ZGP ZGH 16):=dR
theorem ZQV:D 68 ZGP ZGH 16 dn s=some [(.normal,s)]:=qd
theorem ZQM:C 68 ZK2 s=O 68 ZK2 0 s:=qG 2
theorem ZQF:O 68 ZK2 0 s=Zbb s (some 10) (some {v:=R s 2}) (O 68 ZK2 1):=oR
theorem ZQG:O 68 ZK2 1 s=Zbb s (some 11) (val (ZmJ Tryz.prog .add 3 false true (R s 10) (.int .i64 (1)))) (O 68 ZK2 2):=oR
theorem ZQH:O 68 ZK2 2 s=Zbb s (some 12) (some {v:=R s 3}) (O 68 ZK2 3):=oR
theorem ZQI:O 68 ZK2 3 s=Zbb s (some 13) (val (ZmJ Tryz.prog .sub 3 false true (R s 12) (.int .i64 (1)))) (O 68 ZK2 4):=oR
theorem ZQJ:O 68 ZK2 4 s=Zbb s (some 2) (some {v:=R s 11}) (O 68 ZK2 5):=oR
theorem ZQK:O 68 ZK2 5 s=Zbb s (some 3) (some {v:=R s 13}) (O 68 ZK2 6):=oR
theorem ZQL:O 68 ZK2 6 s=some [(.normal,s)]:=qe
def ZQs:Code:=Tryz.f189.body.getD .skip
theorem Z0M (args:List V) (ha:args.length≤6) (h:H):(EV Tryz.prog hs ks).call 189 args h=Zm1 Tryz.prog hs ks Tryz.f189 (C 189 ZQs (S 6 (ZCl args 0 fun _=> ZmM) [] h)):=Qu Tryz.func189 (by kernel_rfl) (by kernel_rfl) (by decide) rfl ha h
theorem ZW7 (f:Nat→V) (h:H):Zm1 Tryz.prog hs ks Tryz.f189 (some [(.ret,S 6 f [] h)])=ZCp (ZCk Tryz.prog (S 6 f [] h) [.tmp 4]) h:=Zc (by kernel_rfl) (Or.inl rfl) _ _
theorem Z0N (f:Nat→V) (h:H):Zm1 Tryz.prog hs ks Tryz.f189 (some [(.normal,S 6 f [] h)])=ZCp (ZCk Tryz.prog (S 6 f [] h) [.tmp 4]) h:=Zc (by kernel_rfl) (Or.inr rfl) _ _
def ZLK:Code:=ZgE ZQs
def ZPg:Code:=ZhX ZQs
theorem Z0L:C 189 ZQs s=thenV (C 189 ZLK s) (C 189 ZPg):=qS
theorem Z0E:C 189 ZLK s=O 189 ZLK 0 s:=qG 0
theorem Z0A:O 189 ZLK 0 s=Zbb s (some 2) (some {v:=.ptr s.h.n 0,nw:=[.row 0 (V.cells (R s 0))]}) (O 189 ZLK 1):=oR
theorem Z0B:O 189 ZLK 1 s=Zbb s (some 3) (some {v:=.ptr s.h.n 0,nw:=[.row 0 (V.cells (R s 1))]}) (O 189 ZLK 2):=oR
theorem Z0C:O 189 ZLK 2 s=Zbb s (some 4) (some {v:=(.nilf)}) (O 189 ZLK 3):=oR
theorem Z0D:O 189 ZLK 3 s=some [(.normal,s)]:=qe
def ZL8:Code:=ZgE ZPg
def ZS4:Code:=ZhX ZPg
theorem Z0F:C 189 ZPg s=thenV (C 189 ZL8 s) (C 189 ZS4):=qS
theorem Z0J:C 189 ZL8 s=O 189 ZL8 0 s:=qG 1
theorem Z0G:O 189 ZL8 0 s=Zbb s (some 5) (some {v:=.fn (.func 243) [] [R s 3,R s 2]}) (O 189 ZL8 1):=oR
theorem Z0H:O 189 ZL8 1 s=Zbb s (some 4) (some {v:=R s 5}) (O 189 ZL8 2):=oR
theorem Z0I:O 189 ZL8 2 s=some [(.normal,s)]:=qe
theorem Z0K:C 189 ZS4 s=some [(.ret,s)]:=qR
end
section
mutual
theorem ZYr (n:Nat):∀v:V,V.pure v=true→V.shift n v=v
 |.vs cs len sz o,h=> by cases o <;> first|rfl|cases h
 |.iface t v,h=> by
  have h:V.pure v=true:=h
  show V.iface t (V.shift n v)=_
  rw[ZYr n v h]
 |.agg cs,h=> by
  show V.agg (V.shifts n cs)=_
  rw[ZNZ n cs h]
 |.tup cs,h=> by
  show V.tup (V.shifts n cs)=_
  rw[ZNZ n cs h]
 |.fn f a b,h=> by
  have h:(_ && V.pures a && V.pures b)=true:=h
  rw[Bool.and_eq_true,Bool.and_eq_true] at h
  show V.fn (ZIO n f) (V.shifts n a) (V.shifts n b)=_
  rw[ZNZ n a h.1.2,ZNZ n b h.2]
  cases f <;> first|rfl|(have h1:=h.1.1;cases h1)
 |.bool _,_|.int _ _,_|.str _,_|.nilp,_|.nils,_|.ze,_|.nilm,_|.nilf,_|.nilif,_|.iptr _,_=> rfl
theorem ZNZ (n:Nat):∀l:List V,V.pures l=true→V.shifts n l=l
 |[],_=> rfl
 |v::l,h=> by
  have h:(V.pure v && V.pures l)=true:=h
  rw[Bool.and_eq_true] at h
  show V.shift n v::V.shifts n l=_
  rw[ZYr n v h.1,ZNZ n l h.2]
end
theorem ZVh {v:V} (h:V.pure v=true):V.pures v.cells=true:=by
 cases v <;> first|exact h|(show(V.pure _ && true)=true;rw[h];rfl)
theorem Z2p (v0 v1:V):∃g d,(EV Tryz.prog hs ks).call 189 [v0,v1] H.empty=some [(.ret (.fn (.func 243) [] [.ptr 1 0,.ptr 0 0]),mkH 2 g d)]∧g 0=.row 0 v0.cells∧g 1=.row 0 v1.cells:=by
 refine⟨atB (atB (fun _=> .gone) 0 (.row 0 v0.cells)) 1 (.row 0 v1.cells),[],?_,rfl,rfl⟩
 rw[Z0M _ (by simp),zDI]
 simp(disch:=first|decide|omega)[ZW7,Z0N,Z0L,Z0E,Z0A,Z0B,Z0C,Z0D,Z0F,Z0J,Z0G,Z0H,Z0I,Z0K,ZW7,ZCl,ZF,JC,JB,ZR,ZS,Zo,ZE,Jx,Jw,Jq,Zw,Zk,S_h,ZH,Zz,ZM,ZK,ZL,zt,ZO,ZN,Z7,Zj,Jp,Z8,JD,JE,Zt,Z0,ZCD,ZP,ZQ,zq,zB,zz,zA,zo,Z5,zr,zO,Jy,Jz,JG,JH,Z1,Z2,Z3,Z4,ZI,Zy,JF,ZT,List.map,ZW,ZB,ZA,ZY,ZX,JO,ZZ,ZnB,Zi3,V.ones,Je,Jd,Jh,Jg,Jf,Ji,splice,Jn,Jo,Jm,ZLQ,ZV,Jk,Jl,Jj,zK,ZU,zL,JA,Jt,Js,Ju,Jr,Jv,Ja,Jb,Jc,ZLP,ZLO,Z9,max2,ZLI,cond_true,cond_false,List.nil_append,List.cons_append]
theorem mk189:Mk2.ok Tryz.prog Eq.KD hs ks ⟨189,243,.ag Eq.Dk,Eq.i1⟩:=by
 intro v0 v1 _ _ p0 p1 nb
 obtain⟨g,d,h1,h2,h3⟩:=Z2p v0 v1
 show ZC3 hs ks (EV Tryz.prog hs ks) 189 [v0,v1] nb=_
 unfold ZC3
 rw[show ks.call 189 [v0,v1]=none from rfl]
 simp only
 rw[h1]
 simp only
 have hl:ZE0 hs 189 nb (.ret (.fn (.func 243) [] [.ptr 1 0,.ptr 0 0]),mkH 2 g d)=some {v:=.fn (.func 243) [] [.ptr (nb+1) 0,.ptr nb 0],nw:=[.row 0 v0.cells,.row 0 v1.cells]}:=by
  unfold ZE0
  simp only
  rw[if_neg (by simp[Eq.hint0])]
  have hr:ZD3 nb (mkH 2 g d) (.fn (.func 243) [] [.ptr 1 0,.ptr 0 0])=none:=rfl
  rw[hr]
  have b0:((mkH 2 g d).get 0).shift nb=.row 0 v0.cells:=by
   rw[Zj (by omega),h2]
   show Blk.row 0 (V.shifts nb v0.cells)=_
   rw[ZNZ _ _ (ZVh p0)]
  have b1:((mkH 2 g d).get 1).shift nb=.row 0 v1.cells:=by
   rw[Zj (by omega),h3]
   show Blk.row 0 (V.shifts nb v1.cells)=_
   rw[ZNZ _ _ (ZVh p1)]
  show some (Eff.mk (V.fn (.func 243) [] [.ptr (nb+1) 0,.ptr (nb+0) 0]) [] [] [((mkH 2 g d).get 0).shift nb,((mkH 2 g d).get 1).shift nb] false)=_
  rw[b0,b1];rfl
 show(match ZCT (ZE0 hs 189 nb) [(.ret (.fn (.func 243) [] [.ptr 1 0,.ptr 0 0]),mkH 2 g d)] with
  |some es=> some (oneOf es)
  |none=> none)=_
 unfold ZCT
 rw[hl];rfl
end
section
theorem ZN3:und Tryz.prog 24=.slice 26:=by kernel_rfl
theorem ZLf:ZmI Tryz.prog 26=5:=by kernel_rfl
theorem ZR5:ZDM Tryz.prog 26=true:=by kernel_rfl
theorem ZJ0:okT Tryz.prog 26=true:=by kernel_rfl
theorem Z1r {get:Nat→Blk} {nid r o n c z:Nat} {e:Bool}:ZmL Tryz.prog false get nid .len [24] [.hs r o n c z e]=some {v:=.int .i64 n}:=by
 unfold ZmL
 simp only
 unfold ZDQ
 rw[ZN3]
theorem ZW5 {r n c z:Nat} {e:Bool} {i:Nat} (h:i < n):indexAddr Tryz.prog 24 (.hs r 0 n c z e) (.int .i64 (i:Int))=some (.ptr r (i * 5)):=by
 unfold indexAddr
 simp only[asI]
 rw[ZN3]
 simp only
 rw[if_pos ⟨by omega,by omega,ZJ0⟩,ZLf]
 simp
theorem ZTa {A X B:List V} (hX:X.length=5) {get:Nat→Blk} {r k off:Nat} (hg:get r=.row k (A++(X++B))) (ho:A.length=off):Zi3 Tryz.prog 26 get (.ptr r off)=some {v:=.agg X,rd:=[r]}:=by
 subst ho
 unfold Zi3
 simp only
 rw[hg]
 simp only
 have hl:ZCC Tryz.prog 26 ((A++(X++B)).drop A.length)=some (.agg X):=by
  unfold ZCC
  rw[List.drop_left,ZR5,if_pos rfl,ZLf,if_pos (by rw[List.length_append];omega),List.take_left' hX]
 rw[if_pos (by rw[List.length_append];omega),hl]
theorem st26 {A X Y B:List V} (hX:X.length=5) (hY:Y.length=5) (ho1:V.ones Y=true) {get:Nat→Blk} {r off:Nat} (hg:get r=.row 0 (A++(X++B))) (ho:A.length=off):ZnB Tryz.prog 26 get (.ptr r off) (.agg Y)=some {v:=ZmM,rd:=[r],wr:=[(r,.row 0 (A++(Y++B)))]}:=by
 subst ho
 unfold ZnB
 simp only
 rw[hg]
 simp only
 have hs:splice (A++(X++B)) (V.cells (.agg Y)) A.length=some (A++(Y++B)):=by
  show splice (A++(X++B)) Y A.length=_
  unfold splice
  rw[if_pos (by rw[List.length_append,List.length_append];omega),List.take_left,show A.length+Y.length=(A++X).length by rw[List.length_append];omega,←List.append_assoc A X B,List.drop_left,List.append_assoc]
 rw[if_pos ⟨Nat.zero_le _,by rw[ZLf];exact hY,ho1⟩,hs]
set_option maxHeartbeats 1000000 in
theorem Z2h {f:Nat→V} {nb:Nat} {g:Nat→Blk} {d:List Nat} {r n:Nat} {P X M Y Q:List V} {i j:Nat} (hX:X.length=5) (hY:Y.length=5) (oX:V.ones X=true) (oY:V.ones Y=true) (hP:P.length=i * 5) (hM:P.length+5+M.length=j * 5) (hi:i < j) (hj:j < n) (hn:n < 4611686018427387904)
 (f0:f 0=.hs r 0 n n 5 false) (f2:f 2=.int .i64 (i:Int)) (f3:f 3=.int .i64 (j:Int)) (hr:r < nb) (hg:g r=.row 0 (P++(X++(M++(Y++Q))))) {Z:Option (List (Ex×St))→Prop}
 (hz:∀f' g' d',f' 0=.hs r 0 n n 5 false→f' 2=.int .i64 ((i+1:Nat):Int)→f' 3=.int .i64 ((j - 1:Nat):Int)→g' r=.row 0 (P++(Y++(M++(X++Q))))→(∀x,x≠r→g' x=g x)→Z (C 68 ZL9 (S 28 f' [] (mkH nb g' d')))):
 Z (C 68 ZL9 (S 28 f [] (mkH nb g d))):=by
 have a1:P++(X++(M++(Y++Q)))=(P++(X++M))++(Y++Q):=by simp
 have a2:P++(Y++(M++(Y++Q)))=(P++(Y++M))++(Y++Q):=by simp
 have L1:Zi3 Tryz.prog 26 (mkH nb g d).get (.ptr r (j * 5))=some {v:=.agg Y,rd:=[r]}:=ZTa (A:=P++(X++M)) (B:=Q) (k:=0) hY (by rw[Zj hr,hg,a1]) (by rw[List.length_append,List.length_append];omega)
 have L2:Zi3 Tryz.prog 26 (mkH nb g d).get (.ptr r (i * 5))=some {v:=.agg X,rd:=[r]}:=ZTa (A:=P) (B:=M++(Y++Q)) (k:=0) hX (by rw[Zj hr,hg]) hP
 have S1:ZnB Tryz.prog 26 (mkH nb g d).get (.ptr r (i * 5)) (.agg Y)=some {v:=ZmM,rd:=[r],wr:=[(r,.row 0 (P++(Y++(M++(Y++Q)))))]}:=st26 (A:=P) hX hY oY (by rw[Zj hr,hg]) hP
 have S2:∀d,ZnB Tryz.prog 26 (mkH nb (atB g r (.row 0 (P++(Y++(M++(Y++Q)))))) d).get (.ptr r (j * 5)) (.agg X)=some {v:=ZmM,rd:=[r],wr:=[(r,.row 0 (P++(Y++(M++(X++Q)))))]}:=fun d=> by
  rw[st26 (A:=P++(Y++M)) (X:=Y) (B:=Q) hY hX oX (by rw[Zj hr,ZO,a2]) (by rw[List.length_append,List.length_append];omega)]
  simp
 have I1:indexAddr Tryz.prog 24 (.hs r 0 n n 5 false) (.int .i64 (i:Int))=some (.ptr r (i * 5)):=ZW5 (by omega)
 have I2:indexAddr Tryz.prog 24 (.hs r 0 n n 5 false) (.int .i64 (j:Int))=some (.ptr r (j * 5)):=ZW5 hj
 have W1:IntKind.wrap .i64 ((i:Int)+1)=((i+1:Nat):Int):=by rw[za4 (by omega) (by omega)];omega
 have W2:IntKind.wrap .i64 ((j:Int) - 1)=((j - 1:Nat):Int):=by rw[za4 (by omega) (by omega)];omega
 have hlt:decide ((i:Int) < (j:Int))=true:=by simp;omega
 generalize hI:(i:Int)=I at *
 generalize hJ:(j:Int)=J at *
 rw[ZW8]
 simp(disch:=first|assumption|decide|omega)[ZRi,ZOw,ZRh,ZQB,ZQv,ZQw,ZQx,ZQy,ZQz,ZQA,ZQ5,ZQ6,ZQ7,ZRd,ZQ9,ZRa,ZRb,ZRc,ZRe,ZRf,ZRg,ZQ8,ZQE,ZQ4,ZQN,ZQO,ZQW,ZQX,ZQY,ZQZ,ZQ0,ZQ1,ZQ2,ZQ3,ZQP,ZQQ,ZQR,ZQS,ZQT,ZQU,ZQV,ZQM,ZQF,ZQG,ZQH,ZQI,ZQJ,ZQK,ZQL,ZCl,ZF,JC,JB,ZR,ZS,Zo,ZE,Jx,Jw,Jq,Zw,Zk,S_h,ZH,Zz,ZM,ZK,ZL,zt,ZO,ZN,Z7,Zj,Jp,Z8,JD,JE,Zt,Z0,ZCD,ZP,ZQ,zq,zB,zz,zA,zo,Z5,zr,zO,Jy,Jz,JG,JH,Z1,Z2,Z3,Z4,ZI,Zy,JF,ZT,List.map,ZW,ZB,ZA,ZY,ZX,JO,ZZ,V.ones,Je,Jd,Jh,Jg,Jf,Ji,Jn,Jo,Jm,ZLQ,ZV,Jk,Jl,Jj,zK,ZU,zL,JA,Jt,Js,Ju,Jr,Jv,Ja,Jb,Jc,ZLP,ZLO,Z9,max2,ZLI,cond_true,cond_false,List.nil_append,List.cons_append,f0,f2,f3,L1,L2,S1,S2,I1,I2,W1,W2,hlt]
 refine hz _ _ _ ?_ ?_ ?_ ?_ ?_
 all_goals simp(disch:=first|assumption|decide|omega)[zt,ZO,f0]
 intro x hx
 simp[ZN,hx]
theorem ZTE {f:Nat→V} {h:H} {I J:Int} (f2:f 2=.int .i64 I) (f3:f 3=.int .i64 J) (hlt:decide (I < J)=false):
 C 68 ZL9 (S 28 f [] h)=some [(.exit 0,S 28 (at1 (at1 (at1 f 7 (.int .i64 I)) 8 (.int .i64 J)) 9 (.bool false)) [] h)]:=by
 rw[ZW8]
 simp(disch:=first|assumption|decide|omega)[ZRi,ZOw,ZRh,ZQB,ZQv,ZQw,ZQx,ZQy,ZQz,ZQA,ZQ5,ZQ6,ZQ7,ZRd,ZQ9,ZRa,ZRb,ZRc,ZRe,ZRf,ZRg,ZQ8,ZQE,ZQ4,ZQN,ZQO,ZQW,ZQX,ZQY,ZQZ,ZQ0,ZQ1,ZQ2,ZQ3,ZQP,ZQQ,ZQR,ZQS,ZQT,ZQU,ZQV,ZQM,ZQF,ZQG,ZQH,ZQI,ZQJ,ZQK,ZQL,ZCl,ZF,JC,JB,ZR,ZS,Zo,ZE,Jx,Jw,Jq,Zw,Zk,S_h,ZH,Zz,ZM,ZK,ZL,zt,ZO,ZN,Z7,Zj,Jp,Z8,JD,JE,Zt,Z0,ZCD,ZP,ZQ,zq,zB,zz,zA,zo,Z5,zr,zO,Jy,Jz,JG,JH,Z1,Z2,Z3,Z4,ZI,Zy,JF,ZT,List.map,ZW,ZB,ZA,ZY,ZX,JO,ZZ,V.ones,Je,Jd,Jh,Jg,Jf,Ji,Jn,Jo,Jm,ZLQ,ZV,Jk,Jl,Jj,zK,ZU,zL,JA,Jt,Js,Ju,Jr,Jv,Ja,Jb,Jc,ZLP,ZLO,Z9,max2,ZLI,cond_true,cond_false,List.nil_append,List.cons_append,f2,f3,hlt]
theorem ZYd {r n:Nat} (hn:n < 4611686018427387904):∀(k:Nat) (bs:List (List V)) (P Q:List V) (f:Nat→V) (nb:Nat) (g:Nat→Blk) (d:List Nat) (i:Nat),bs.length≤k→(∀b∈bs,b.length=5∧V.ones b=true)→P.length=i * 5→
 f 0=.hs r 0 n n 5 false→f 2=.int .i64 (i:Int)→f 3=.int .i64 ((i:Int)+bs.length - 1)→i+bs.length≤n→r < nb→g r=.row 0 (P++(bs.flatten++Q))→
 ∃f' g' d',C 68 ZL9 (S 28 f [] (mkH nb g d))=some [(.exit 0,S 28 f' [] (mkH nb g' d'))]∧g' r=.row 0 (P++(bs.reverse.flatten++Q))∧∀x,x≠r→g' x=g x
 |k,[],P,Q,f,nb,g,d,i,hk,hb,hP,f0,f2,f3,hin,hr,hg=> by
  refine⟨_,g,d,ZTE f2 f3 (by simp;omega),hg,fun _ _=> rfl⟩
 |k,[x],P,Q,f,nb,g,d,i,hk,hb,hP,f0,f2,f3,hin,hr,hg=> by
  refine⟨_,g,d,ZTE f2 f3 (by simp),hg,fun _ _=> rfl⟩
 |0,x::y::bs,P,Q,f,nb,g,d,i,hk,hb,hP,f0,f2,f3,hin,hr,hg=> by simp at hk
 |k+1,x::y::bs,P,Q,f,nb,g,d,i,hk,hb,hP,f0,f2,f3,hin,hr,hg=> by
  obtain⟨ms,z,hz⟩:∃ms z,y::bs=ms++[z]:=⟨_,_,(List.dropLast_concat_getLast (List.cons_ne_nil y bs)).symm⟩
  rw[hz] at hk hb f3 hin hg⊢
  have hlen:(x::(ms++[z])).length=ms.length+2:=by simp
  rw[hlen] at hk f3 hin
  obtain⟨x1,x2⟩:=hb x (List.mem_cons_self ..)
  obtain⟨z1,z2⟩:=hb z (List.mem_cons_of_mem _ (List.mem_append_right _ (List.mem_singleton.2 rfl)))
  have hms:∀b∈ms,b.length=5∧V.ones b=true:=fun b hbm=> hb b (List.mem_cons_of_mem _ (List.mem_append_left _ hbm))
  have hfl:∀l:List (List V),(∀b∈l,b.length=5∧V.ones b=true)→l.flatten.length=l.length * 5:=by
   intro l
   induction l with
   |nil=> intro _;rfl
   |cons b l ih=>
    intro hl
    rw[List.flatten_cons,List.length_append,ih fun c hc=> hl c (List.mem_cons_of_mem _ hc),(hl b (List.mem_cons_self ..)).1,List.length_cons]
    omega
  have hm5:=hfl ms hms
  have e1:P++((x::(ms++[z])).flatten++Q)=P++(x++(ms.flatten++(z++Q))):=by simp
  rw[e1] at hg
  have f3':f 3=.int .i64 ((i+ms.length+1:Nat):Int):=by rw[f3];congr 1;omega
  have e2:P++((x::(ms++[z])).reverse.flatten++Q)=(P++z)++(ms.reverse.flatten++(x++Q)):=by simp
  rw[e2]
  refine Z2h (Z:=fun X=> ∃f' g' d',X=some [(.exit 0,S 28 f' [] (mkH nb g' d'))]∧g' r=.row 0 ((P++z)++(ms.reverse.flatten++(x++Q)))∧∀x,x≠r→g' x=g x) x1 z1 x2 z2 hP (by rw[hm5];omega) (by omega) (by omega) hn f0 f2 f3' hr hg fun f1 g1 d1 s1 s2 s3 s4 s5=> ?_
  obtain⟨f',g',d',t1,t2,t3⟩:=ZYd hn k ms (P++z) (x++Q) f1 nb g1 d1 (i+1) (by omega) hms (by rw[List.length_append];omega) s1 s2 (by rw[s3];congr 1;omega) (by omega) hr (by rw[s4];simp)
  exact⟨f',g',d',t1,t2,fun y hy=> (t3 y hy).trans (s5 y hy)⟩
theorem f68 {r:Nat} (bs:List (List V)) (hb:∀b∈bs,b.length=5∧V.ones b=true) (hn:bs.length < 4611686018427387904) {nb:Nat} {g:Nat→Blk} {d:List Nat} (hr:r < nb) (hg:g r=.row 0 bs.flatten):
 ∃g' d',(EV Tryz.prog hs ks).call 68 [.hs r 0 bs.length bs.length 5 false] (mkH nb g d)=some [(.ret (.tup []),mkH nb g' d')]∧g' r=.row 0 bs.reverse.flatten∧∀x,x≠r→g' x=g x:=by
 have W:IntKind.wrap .i64 ((bs.length:Int) - 1)=(bs.length:Int) - 1:=za4 (by omega) (by omega)
 generalize hN:(bs.length:Int)=N at W
 have T:∀f,f 0=.hs r 0 bs.length bs.length 5 false→f 2=.int .i64 0→f 3=.int .i64 (N - 1)→∃g',(∃x,Zm1 Tryz.prog hs ks Tryz.f68 (ZmZ 0 (C 68 ZL9 (S 28 f [] (mkH nb g d))))=some [(.ret (.tup []),mkH nb g' x)])∧g' r=.row 0 bs.reverse.flatten∧∀x,¬x=r→g' x=g x:=by
  intro f f0 f2 f3
  obtain⟨f',g',d',h1,h2,h3⟩:=ZYd hn bs.length bs [] [] f nb g d 0 (Nat.le_refl _) hb rfl f0 f2 (by rw[f3,←hN];congr 1;omega) (by omega) hr (by rw[hg];simp)
  refine⟨g',⟨d',?_⟩,by rw[h2];simp,h3⟩
  rw[h1,Zo,ZOw]
  rfl
 rw[ZW9 _ (by simp)]
 simp(disch:=first|assumption|decide|omega)[ZRi,ZOw,ZRh,ZQB,ZQv,ZQw,ZQx,ZQy,ZQz,ZQA,ZQ5,ZQ6,ZQ7,ZRd,ZQ9,ZRa,ZRb,ZRc,ZRe,ZRf,ZRg,ZQ8,ZQE,ZQ4,ZQN,ZQO,ZQW,ZQX,ZQY,ZQZ,ZQ0,ZQ1,ZQ2,ZQ3,ZQP,ZQQ,ZQR,ZQS,ZQT,ZQU,ZQV,ZQM,ZQF,ZQG,ZQH,ZQI,ZQJ,ZQK,ZQL,ZCl,ZF,JC,JB,ZR,ZS,Zo,ZE,Jx,Jw,Jq,Zw,Zk,S_h,ZH,Zz,ZM,ZK,ZL,zt,ZO,ZN,Z7,Zj,Jp,Z8,JD,JE,Zt,Z0,ZCD,ZP,ZQ,zq,zB,zz,zA,zo,Z5,zr,zO,Jy,Jz,JG,JH,Z1,Z2,Z3,Z4,ZI,Zy,JF,ZT,List.map,ZW,ZB,ZA,ZY,ZX,JO,ZZ,V.ones,Je,Jd,Jh,Jg,Jf,Ji,Jn,Jo,Jm,ZLQ,ZV,Jk,Jl,Jj,zK,ZU,zL,JA,Jt,Js,Ju,Jr,Jv,Ja,Jb,Jc,ZLP,ZLO,Z9,max2,ZLI,cond_true,cond_false,List.nil_append,List.cons_append,Z1r,W,hN]
 exact T _ (by simp[zt]) (by simp[zt]) (by simp[zt])
end
section
theorem ZTu:okU Tryz.prog 24=true:=by kernel_rfl
theorem Z1T:okU Tryz.prog 3=true:=by kernel_rfl
theorem ag3:ZDM Tryz.prog 3=false:=by kernel_rfl
theorem ZZq:ZDM Tryz.prog 24=false:=by kernel_rfl
theorem ZRw:okZ Tryz.prog 26=true:=by kernel_rfl
theorem Z2n:decide (ZD4 Tryz.prog 26 2147483648)=true:=by kernel_rfl
theorem ZYi {n:Nat} (h:n≤2147483648):ZD4 Tryz.prog 26 n:=ZYj (of_decide_eq_true Z2n) h
def z5:List V:=[.int .i64 0,.int .i64 0,.str ⟨#[]⟩,.nils,.nils]
theorem Z3g:(if 1 * ZmI Tryz.prog 26=0 then some [] else (zeroOf Tryz.prog 26).bind fun z=> if z.cells.length=ZmI Tryz.prog 26 then some (ZDw z.cells 1) else none)=some z5:=by kernel_rfl
theorem Z1A {b:List V} (hb:b.length=5) (hp:V.pures (V.seals b)=true) (nid:Nat):ZDl Tryz.prog false 24 1 [(0,.agg b)] nid=some {v:=.vs (V.seals b) 1 5 .tight}:=by
 have hs:splice z5 b 0=some b:=by
  unfold splice
  rw[if_pos (by rw[hb];decide),hb]
  show some ([]++b++[])=_
  rw[List.nil_append,List.append_nil]
 have hc:ZE1 Tryz.prog 24 1 [(0,.agg b)]=some (b,5):=by
  unfold ZE1
  rw[ZN3]
  simp only
  rw[if_pos ⟨by rw[ZLf];decide,ZJ0⟩,Z3g]
  simp only[ZDJ,Nat.zero_mul]
  rw[if_pos (show(V.cells (.agg b)).length=ZmI Tryz.prog 26 by rw[ZLf];exact hb)]
  rw[show splice z5 (V.cells (.agg b)) 0=some b from hs,ZLf]
  rfl
 unfold ZDl
 rw[hc]
 simp only
 unfold ZF8
 rw[hp];rfl
theorem ZZw {b:List V} (hb:b.length=5) (ho:V.ones b=true) {get:Nat→Blk} {nid:Nat}:ZmL Tryz.prog true get nid .append [24,24] [.nils,.vs b 1 5 .tight]=some {v:=.hs nid 0 1 1 5 false,nw:=[.row 0 b]}:=by
 unfold ZmL
 simp only[ZN3]
 rw[ZTu,ZRw]
 simp only[ZC9,ho,ZLf,hb]
 simp[ZCY,ZRw,ZYi,ZLf]
theorem ZZv {b cs:List V} {r n:Nat} (hb:b.length=5) (ho:V.ones b=true) (hn:n≤1048576) (hc:cs.length=n * 5) {get:Nat→Blk} (hg:get r=.row 0 cs) {nid:Nat}:ZmL Tryz.prog true get nid .append [24,24] [.hs r 0 n n 5 false,.vs b 1 5 .tight]=some {v:=.hs nid 0 (n+1) (n+1) 5 false,rd:=[r],wr:=[(r,.gone)],nw:=[.row 0 (cs++b)]}:=by
 have hr:ZD4 Tryz.prog 26 (n+1):=ZYi (by omega)
 unfold ZmL
 simp only[ZN3]
 rw[ZTu,ZRw]
 simp only[ZC9,ho,ZLf,hb]
 simp[ZCY,ZRw,hr,ZLf,hg,hc]
 intro hh;omega
theorem ld3 {t0:V} {l:List V} {get:Nat→Blk} {r k:Nat} (hg:get r=.row k (t0::l)):Zi3 Tryz.prog 3 get (.ptr r 0)=some {v:=t0,rd:=[r]}:=by
 unfold Zi3
 simp only
 rw[hg]
 simp only[ZCC,ag3,Z1T]
 rfl
theorem ZXd {t0 t1 t2 t3 t4:V} {get:Nat→Blk} {r k:Nat} (hg:get r=.row k [t0,t1,t2,t3,t4]):Zi3 Tryz.prog 24 get (.ptr r 4)=some {v:=t4,rd:=[r]}:=by
 unfold Zi3
 simp only
 rw[hg]
 simp only[ZCC,ZZq,ZTu]
 rfl
theorem ZW6 {cs:List V} {n c i:Nat} {o:Own} (h:i < n):indexAddr Tryz.prog 24 (.vs cs n c o) (.int .i64 (i:Int))=some (.iptr (cs.drop (i * 5))):=by
 unfold indexAddr
 simp only[asI]
 rw[ZN3]
 simp only
 rw[if_pos ⟨by omega,by omega,ZJ0⟩,ZLf]
 simp
theorem ZXe {X B:List V} {get:Nat→Blk} (hX:X.length=5):Zi3 Tryz.prog 26 get (.iptr (X++B))=some {v:=.agg X}:=by
 unfold Zi3
 simp only
 unfold ZCC
 rw[ZR5,if_pos rfl,ZLf,if_pos (by rw[List.length_append];omega),List.take_left' hX]
 rfl
theorem ZTe {v:V} {n:Nat} (h:V.lenN v=n) (hv:v=.nils∨v=.ze∨∃cs k z o,v=.vs cs k z o) {get:Nat→Blk} {nid:Nat}:ZmL Tryz.prog false get nid .len [24] [v]=some {v:=.int .i64 n}:=by
 unfold ZmL
 simp only
 unfold ZDQ
 rw[ZN3]
 subst h
 rcases hv with rfl|rfl|⟨cs,k,z,o,rfl⟩ <;> rfl
theorem Z2x {f:Nat→V} {nb:Nat} {g:Nat→Blk} {d:List Nat} {r1 kk:Nat} {k:Int} {t1 t2 t3 t4:V} {n:Nat} (f1:f 1=.ptr r1 0) (hr:r1 < nb) (hg:g r1=.row kk [.int .i64 k,t1,t2,t3,t4])
 (hv:t4=.nils∨t4=.ze∨∃cs k z o,t4=.vs cs k z o) (hl:V.lenN t4=n) (hno:k≠4∨n≠2) {Z:Option (List (Ex×St))→Prop} (hz:∀f',f' 1=.ptr r1 0→f' 2=f 2→f' 4=f 4→Z (some [(.exit 0,S 29 f' [] (mkH nb g d))])):Z (C 27 zcL (S 29 f [] (mkH nb g d))):=by
 have L1:Zi3 Tryz.prog 3 (mkH nb g d).get (.ptr r1 0)=some {v:=.int .i64 k,rd:=[r1]}:=ld3 (k:=kk) (by rw[Zj hr,hg])
 have L2:Zi3 Tryz.prog 24 (mkH nb g d).get (.ptr r1 4)=some {v:=t4,rd:=[r1]}:=ZXd (k:=kk) (by rw[Zj hr,hg])
 have L3:ZmL Tryz.prog false (mkH nb g d).get nb .len [24] [t4]=some {v:=.int .i64 n}:=ZTe hl hv
 by_cases hk:k=4
 ·subst hk
  have hn:n≠2:=hno.resolve_left (fun h=> h rfl)
  have hb:((n:Int)==2)=false:=by
   rw[beq_eq_false_iff_ne];omega
  generalize (n:Int)=N at L3 hb
  rw[ZQt]
  simp(disch:=first|assumption|decide|omega)[zxT,ZNQ,zxS,zxP,zBk,zBl,ZNm,ZNn,zdJ,zdK,zBP,zBQ,zdL,zdM,zdO,ZNP,zBm,ZNo,ZNp,ZNq,ZNr,ZNs,ZNt,ZNu,ZNv,ZNw,ZNx,zBn,zBs,zBt,zBW,zBv,zBx,ZNy,ZNz,ZNA,ZNB,ZNC,ZND,ZNE,ZNF,ZNG,zdI,ZNH,ZNI,ZNJ,ZNK,ZNL,ZNM,zdN,zBC,zBy,zBz,zBA,zBI,zBM,zBJ,zBK,zBL,ZNN,ZNO,zBO,ZCl,ZF,JC,JB,ZR,ZS,Zo,ZE,Jx,Jw,Jq,Zw,Zk,S_h,ZH,Zz,ZM,ZK,ZL,zt,ZO,ZN,Z7,Zj,Jp,Z8,JD,JE,Zt,Z0,ZCD,ZP,ZQ,zq,zB,zz,zA,zo,Z5,zr,zO,Jy,Jz,JG,JH,Z1,Z2,Z3,Z4,ZI,Zy,JF,ZT,List.map,ZW,ZB,ZA,ZY,ZX,JO,ZZ,V.ones,Je,Jd,Jh,Jg,Jf,Ji,Jn,Jo,Jm,ZLQ,ZV,Jk,Jl,Jj,zK,ZU,zL,JA,Jt,Js,Ju,Jr,Jv,Ja,Jb,Jc,ZLP,ZLO,Z9,max2,ZLI,cond_true,cond_false,List.nil_append,List.cons_append,f1,L1,L2,L3,hb]
  exact hz _ (by simp[zt,f1]) (by simp[zt]) (by simp[zt])
 ·have hb:(k==4)=false:=by rw[beq_eq_false_iff_ne];exact hk
  rw[ZQt]
  simp(disch:=first|assumption|decide|omega)[zxT,ZNQ,zxS,zxP,zBk,zBl,ZNm,ZNn,zdJ,zdK,zBP,zBQ,zdL,zdM,zdO,ZNP,zBm,ZNo,ZNp,ZNq,ZNr,ZNs,ZNt,ZNu,ZNv,ZNw,ZNx,zBn,zBs,zBt,zBW,zBv,zBx,ZNy,ZNz,ZNA,ZNB,ZNC,ZND,ZNE,ZNF,ZNG,zdI,ZNH,ZNI,ZNJ,ZNK,ZNL,ZNM,zdN,zBC,zBy,zBz,zBA,zBI,zBM,zBJ,zBK,zBL,ZNN,ZNO,zBO,ZCl,ZF,JC,JB,ZR,ZS,Zo,ZE,Jx,Jw,Jq,Zw,Zk,S_h,ZH,Zz,ZM,ZK,ZL,zt,ZO,ZN,Z7,Zj,Jp,Z8,JD,JE,Zt,Z0,ZCD,ZP,ZQ,zq,zB,zz,zA,zo,Z5,zr,zO,Jy,Jz,JG,JH,Z1,Z2,Z3,Z4,ZI,Zy,JF,ZT,List.map,ZW,ZB,ZA,ZY,ZX,JO,ZZ,V.ones,Je,Jd,Jh,Jg,Jf,Ji,Jn,Jo,Jm,ZLQ,ZV,Jk,Jl,Jj,zK,ZU,zL,JA,Jt,Js,Ju,Jr,Jv,Ja,Jb,Jc,ZLP,ZLO,Z9,max2,ZLI,cond_true,cond_false,List.nil_append,List.cons_append,f1,L1,L2,L3,hb]
  exact hz _ (by simp[zt,f1]) (by simp[zt]) (by simp[zt])
set_option maxHeartbeats 1000000 in
theorem Z2y {f:Nat→V} {nb:Nat} {g:Nat→Blk} {d:List Nat} {r1:Nat} {t1 t2 t3:V} {a b:List V} {o:Own} (f1:f 1=.ptr r1 0) (hr:r1 < nb) (hg:g r1=.row 0 [.int .i64 4,t1,t2,t3,.vs (a++b) 2 5 o]) (ha:a.length=5) (hb:b.length=5) (oa:V.ones a=true) (ob:V.ones (V.seals b)=true) (pb:V.pures (V.seals b)=true) (lb:(V.seals b).length=5)
 {acc:V} {cs:List V} {n:Nat} (f4:f 4=acc) (hn:n≤1048576) (hc:cs.length=n * 5) (hacc:(acc=.nils∧cs=[]∧n=0)∨∃r,acc=.hs r 0 n n 5 false∧r < nb∧r≠r1∧g r=.row 0 cs) {Z:Option (List (Ex×St))→Prop}
 (hz:∀f' g' d',f' 1=.ptr r1 0→f' 2=f 2→f' 4=.hs nb 0 (n+1) (n+1) 5 false→g' nb=.row 0 (cs++V.seals b)→g' r1=.row 0 a→(∀x,x < nb→x≠r1→(∀r,acc=.hs r 0 n n 5 false→x≠r)→g' x=g x)→Z (C 27 zcL (S 29 f' [] (mkH (nb+1) g' d')))):Z (C 27 zcL (S 29 f [] (mkH nb g d))):=by
 have L1:Zi3 Tryz.prog 3 (mkH nb g d).get (.ptr r1 0)=some {v:=.int .i64 4,rd:=[r1]}:=ld3 (k:=0) (by rw[Zj hr,hg])
 have L2:∀{nb':Nat} {g':Nat→Blk} {d':List Nat},r1 < nb'→g' r1=g r1→Zi3 Tryz.prog 24 (mkH nb' g' d').get (.ptr r1 4)=some {v:=.vs (a++b) 2 5 o,rd:=[r1]}:=fun h1 h2=> ZXd (k:=0) (by rw[Zj h1,h2,hg])
 have L3:ZmL Tryz.prog false (mkH nb g d).get nb .len [24] [.vs (a++b) 2 5 o]=some {v:=.int .i64 (2:Int)}:=ZTe (n:=2) rfl (Or.inr (Or.inr ⟨_,_,_,_,rfl⟩))
 have I1:indexAddr Tryz.prog 24 (.vs (a++b) 2 5 o) (.int .i64 1)=some (.iptr b):=by
  have:=ZW6 (cs:=a++b) (n:=2) (c:=5) (o:=o) (i:=1) (by omega)
  rw[show 1 * 5=a.length by rw[ha],List.drop_left] at this
  exact this
 have I0:indexAddr Tryz.prog 24 (.vs (a++b) 2 5 o) (.int .i64 0)=some (.iptr (a++b)):=ZW6 (cs:=a++b) (n:=2) (c:=5) (o:=o) (i:=0) (by omega)
 have M1:∀get,Zi3 Tryz.prog 26 get (.iptr b)=some {v:=.agg b}:=fun get=> by
  have:=ZXe (X:=b) (B:=[]) (get:=get) hb
  rwa [List.append_nil] at this
 have M0:∀get,Zi3 Tryz.prog 26 get (.iptr (a++b))=some {v:=.agg a}:=fun get=> ZXe ha
 have T1:=fun nid=> Z1A hb pb nid
 have st:∀{nb':Nat} {g':Nat→Blk} {d':List Nat},r1 < nb'→g' r1=g r1→ZnB Tryz.prog 26 (mkH nb' g' d').get (.ptr r1 0) (.agg a)=some {v:=ZmM,rd:=[r1],wr:=[(r1,.row 0 a)]}:=fun {nb' g' d'} h1 h2=> by
  have:=st26 (A:=[]) (X:=[.int .i64 4,t1,t2,t3,.vs (a++b) 2 5 o]) (Y:=a) (B:=[]) rfl ha oa (get:=(mkH nb' g' d').get) (r:=r1) (off:=0) (by rw[Zj h1,h2,hg];rfl) rfl
  rw[this]
  simp
 have La:Zi3 Tryz.prog 24 (mkH nb g d).get (.ptr r1 4)=some {v:=.vs (a++b) 2 5 o,rd:=[r1]}:=L2 hr rfl
 rcases hacc with ⟨rfl,rfl,rfl⟩|⟨r,rfl,hr2,hne,hgr⟩
 ·have AP:=fun get nid=> ZZw (get:=get) (nid:=nid) lb ob
  have Lb:∀X d,Zi3 Tryz.prog 24 (mkH (nb+1) (atB g nb X) d).get (.ptr r1 4)=some {v:=.vs (a++b) 2 5 o,rd:=[r1]}:=fun X d=> L2 (by omega) (ZN _ _ (by omega))
  have Sb:∀X d,ZnB Tryz.prog 26 (mkH (nb+1) (atB g nb X) d).get (.ptr r1 0) (.agg a)=some {v:=ZmM,rd:=[r1],wr:=[(r1,.row 0 a)]}:=fun X d=> st (by omega) (ZN _ _ (by omega))
  rw[ZQt]
  simp(disch:=first|assumption|decide|omega)[zxT,ZNQ,zxS,zxP,zBk,zBl,ZNm,ZNn,zdJ,zdK,zBP,zBQ,zdL,zdM,zdO,ZNP,zBm,ZNo,ZNp,ZNq,ZNr,ZNs,ZNt,ZNu,ZNv,ZNw,ZNx,zBn,zBs,zBt,zBW,zBv,zBx,ZNy,ZNz,ZNA,ZNB,ZNC,ZND,ZNE,ZNF,ZNG,zdI,ZNH,ZNI,ZNJ,ZNK,ZNL,ZNM,zdN,zBC,zBy,zBz,zBA,zBI,zBM,zBJ,zBK,zBL,ZNN,ZNO,zBO,ZCl,ZF,JC,JB,ZR,ZS,Zo,ZE,Jx,Jw,Jq,Zw,Zk,S_h,ZH,Zz,ZM,ZK,ZL,zt,ZO,ZN,Z7,Zj,Jp,Z8,JD,JE,Zt,Z0,ZCD,ZP,ZQ,zq,zB,zz,zA,zo,Z5,zr,zO,Jy,Jz,JG,JH,Z1,Z2,Z3,Z4,ZI,Zy,JF,ZT,List.map,ZW,ZB,ZA,ZY,ZX,JO,ZZ,V.ones,Je,Jd,Jh,Jg,Jf,Ji,Jn,Jo,Jm,ZLQ,ZV,Jk,Jl,Jj,zK,ZU,zL,JA,Jt,Js,Ju,Jr,Jv,Ja,Jb,Jc,ZLP,ZLO,Z9,max2,ZLI,cond_true,cond_false,List.nil_append,List.cons_append,f1,f4,L1,L3,I1,I0,M1,M0,T1,AP,La,Lb,Sb]
  refine hz _ _ _ ?_ ?_ ?_ ?_ ?_ ?_
  all_goals try simp(disch:=first|assumption|decide|omega)[zt,ZO,f1]
  ·rw[ZN _ _ (by omega),ZO]
  ·intro x hx hx1
   rw[ZN _ _ hx1,ZN _ _ (by omega)]
 ·have AP:=fun nid=> ZZv (get:=(mkH nb g d).get) (nid:=nid) (r:=r) lb ob hn hc (by rw[Zj hr2];exact hgr)
  have Lb:∀X d,Zi3 Tryz.prog 24 (mkH (nb+1) (atB (atB g r .gone) nb X) d).get (.ptr r1 4)=some {v:=.vs (a++b) 2 5 o,rd:=[r1]}:=fun X d=> L2 (by omega) (by rw[ZN _ _ (by omega),ZN _ _ (Ne.symm hne)])
  have Sb:∀X d,ZnB Tryz.prog 26 (mkH (nb+1) (atB (atB g r .gone) nb X) d).get (.ptr r1 0) (.agg a)=some {v:=ZmM,rd:=[r1],wr:=[(r1,.row 0 a)]}:=fun X d=> st (by omega) (by rw[ZN _ _ (by omega),ZN _ _ (Ne.symm hne)])
  rw[ZQt]
  simp(disch:=first|assumption|decide|omega)[zxT,ZNQ,zxS,zxP,zBk,zBl,ZNm,ZNn,zdJ,zdK,zBP,zBQ,zdL,zdM,zdO,ZNP,zBm,ZNo,ZNp,ZNq,ZNr,ZNs,ZNt,ZNu,ZNv,ZNw,ZNx,zBn,zBs,zBt,zBW,zBv,zBx,ZNy,ZNz,ZNA,ZNB,ZNC,ZND,ZNE,ZNF,ZNG,zdI,ZNH,ZNI,ZNJ,ZNK,ZNL,ZNM,zdN,zBC,zBy,zBz,zBA,zBI,zBM,zBJ,zBK,zBL,ZNN,ZNO,zBO,ZCl,ZF,JC,JB,ZR,ZS,Zo,ZE,Jx,Jw,Jq,Zw,Zk,S_h,ZH,Zz,ZM,ZK,ZL,zt,ZO,ZN,Z7,Zj,Jp,Z8,JD,JE,Zt,Z0,ZCD,ZP,ZQ,zq,zB,zz,zA,zo,Z5,zr,zO,Jy,Jz,JG,JH,Z1,Z2,Z3,Z4,ZI,Zy,JF,ZT,List.map,ZW,ZB,ZA,ZY,ZX,JO,ZZ,V.ones,Je,Jd,Jh,Jg,Jf,Ji,Jn,Jo,Jm,ZLQ,ZV,Jk,Jl,Jj,zK,ZU,zL,JA,Jt,Js,Ju,Jr,Jv,Ja,Jb,Jc,ZLP,ZLO,Z9,max2,ZLI,cond_true,cond_false,List.nil_append,List.cons_append,f1,f4,L1,L3,I1,I0,M1,M0,T1,AP,La,Lb,Sb]
  refine hz _ _ _ ?_ ?_ ?_ ?_ ?_ ?_
  all_goals try simp(disch:=first|assumption|decide|omega)[zt,ZO,f1]
  ·rw[ZN _ _ (by omega),ZO]
  ·intro x hx hx1 hx2
   rw[ZN _ _ hx1,ZN _ _ (by omega),ZN _ _ hx2]
end
section
def Acc (r1 r2:Nat) (bs:List (List V)) (v:V) (nb:Nat) (g:Nat→Blk):Prop:=
 (v=.nils∧bs=[])∨∃r,v=.hs r 0 bs.length bs.length 5 false∧r < nb∧r≠r1∧r≠r2∧g r=.row 0 bs.flatten
def El (b:List V):Prop:=TKs Tryz.prog Eq.KD Eq.Tk b∧V.pures b=true
theorem El.len {b:List V} (h:El b):b.length=5:=h.1.len
theorem El.ones {b:List V} (h:El b):V.ones b=true:=h.1.ones
theorem ZSD:∀{l:List (List V)},(∀b∈l,El b)→l.flatten.length=l.length * 5
 |[],_=> rfl
 |b::l,h=> by
  rw[List.flatten_cons,List.length_append,ZSD fun c hc=> h c (List.mem_cons_of_mem _ hc),(h b (List.mem_cons_self ..)).len,List.length_cons]
  omega
theorem Z2Z {P:Program} {KD:TypeId→Bool→List K} {ks:List K} {cells:List V}:TKn P KD ks 2 cells→∃a b,cells=a++b∧TKs P KD ks a∧TKs P KD ks b
 |.cons (a:=a) ha (.cons (a:=b) hb .nil)=> ⟨a,b,by rw[List.append_nil],ha,hb⟩
structure Left (r1 r2:Nat) (t:List V) (bs:List (List V)) (g:Nat→Blk) (f':Nat→V) (nb':Nat) (g':Nat→Blk) (s:List V) (more:List (List V)):Prop where
 f1:f' 1=.ptr r1 0
 f2:f' 2=.ptr r2 0
 l1:r1 < nb'
 l2:r2 < nb'
 g1:g' r1=.row 0 s
 g2:g' r2=g r2
 es:El s
 acc:Acc r1 r2 (bs++more) (f' 4) nb' g'
 el:∀b∈more,El b
 sp:Eq.SpR (Eq.dns t) (Eq.dns s) (Eq.dns more.reverse.flatten)
 len:more.length≤V.rk (t.getD 4 ZmM)
theorem ZYt {r1 r2:Nat} (hne:r1≠r2):∀(N:Nat) (t:List V) (bs:List (List V)) (f:Nat→V) (nb:Nat) (g:Nat→Blk) (d:List Nat),V.rk (t.getD 4 ZmM) < N→El t→bs.length+V.rk (t.getD 4 ZmM)≤1048576→(∀b∈bs,El b)→
 f 1=.ptr r1 0→f 2=.ptr r2 0→r1 < nb→r2 < nb→g r1=.row 0 t→Acc r1 r2 bs (f 4) nb g→
 ∃f' nb' g' d' s more,C 27 zcL (S 29 f [] (mkH nb g d))=some [(.exit 0,S 29 f' [] (mkH nb' g' d'))]∧Left r1 r2 t bs g f' nb' g' s more
 |0,t,bs,f,nb,g,d,h,_,_,_,_,_,_,_,_,_=> by omega
 |N+1,t,bs,f,nb,g,d,hN,ht,hM,hbs,f1,f2,l1,l2,hg,hacc=> by
  obtain⟨hk,hp⟩:=ht
  obtain⟨t0,t1,t2,t3,t4,rfl⟩:∃t0 t1 t2 t3 t4,t=[t0,t1,t2,t3,t4]:=by
   match t,hk.len with
   |[t0,t1,t2,t3,t4],_=> exact⟨t0,t1,t2,t3,t4,rfl⟩
  have hk':=hk
  cases hk' with
  |cons k0 hk'=> cases hk' with
  |cons k1 hk'=> cases hk' with
  |cons k2 hk'=> cases hk' with
  |cons k3 hk'=> cases hk' with
  |cons k4 hk'=>
  obtain⟨k,rfl⟩:=Eq.tk_int k0
  have hv:t4=.nils∨t4=.ze∨∃cs n z o,t4=.vs cs n z o:=by
   cases k4 with
   |nils=> exact Or.inl rfl
   |ze=> exact Or.inr (Or.inl rfl)
   |vs=> exact Or.inr (Or.inr ⟨_,_,_,_,rfl⟩)
  by_cases hgo:k=4∧V.lenN t4=2
  ·obtain⟨rfl,hl⟩:=hgo
   have hN:V.rk t4 < N+1:=hN
   have hM:bs.length+V.rk t4≤1048576:=hM
   rcases hv with rfl|rfl|⟨cells,len,z,o,rfl⟩
   ·cases hl
   ·cases hl
   cases k4 with
   |vs hz hn hm hpu hc=>
    obtain rfl:len=2:=hl
    have hz5:ZmI Tryz.prog 26=5:=ZLf
    rw[hz5] at hg hp
    obtain⟨a,b,rfl,ha,hb⟩:=Z2Z hc
    have hpa:=hpu
    rw[ZLC,Bool.and_eq_true] at hpa
    have ea:El a:=⟨ha,hpa.1⟩
    have eb:El b:=⟨hb,hpa.2⟩
    have hsb:V.seals b=b:=hb.seals_pure hpa.2
    have hrk:V.rk (V.vs (a++b) 2 (ZmI Tryz.prog 26) o)=V.rks a+V.rks b+1:=by show V.rks (a++b)+1=_;rw[ZMy]
    rw[hrk] at hN hM
    have hak:V.rk (a.getD 4 ZmM)≤V.rks a:=by
     match a,ea.len with
     |[a0,a1,a2,a3,a4],_=> exact ZRG (by simp)
    refine Z2y (acc:=f 4) (cs:=bs.flatten) (n:=bs.length) (Z:=fun X=> ∃f' nb' g' d' s more,X=some [(.exit 0,S 29 f' [] (mkH nb' g' d'))]∧Left r1 r2 [.int .i64 4,t1,t2,t3,.vs (a++b) 2 (ZmI Tryz.prog 26) o] bs g f' nb' g' s more) f1 l1 hg ea.len eb.len ea.ones (by rw[hsb];exact eb.ones) (by rw[hsb];exact hpa.2) (by rw[hsb];exact eb.len) rfl (by omega) (ZSD hbs) ?_ ?_
    ·rcases hacc with ⟨h1,rfl⟩|⟨r,h1,h2,h3,h4,h5⟩
     ·exact Or.inl ⟨h1,rfl,rfl⟩
     ·exact Or.inr ⟨r,h1,h2,h3,h5⟩
    ·intro f' g' d' p1 p2 p3 p4 p5 p6
     rw[hsb] at p4
     have hb2:∀c∈bs++[b],El c:=fun c hc=> by
      rcases List.mem_append.1 hc with hc|hc
      ·exact hbs c hc
      ·rw[List.mem_singleton.1 hc];exact eb
     have p2':g' r2=g r2:=p6 r2 l2 (Ne.symm hne) fun r hr hh=> by
      rcases hacc with ⟨h1,_⟩|⟨r',h1,h2,h3,h4,h5⟩
      ·rw[h1] at hr;cases hr
      ·rw[h1] at hr
       cases hr
       exact h4 hh.symm
     obtain⟨f2',nb2,g2,d2,s,more,q1,q2⟩:=ZYt hne N a (bs++[b]) f' (nb+1) g' d' (by omega) ea (by rw[List.length_append];show bs.length+1+_≤_;omega) hb2 p1 (p2.trans f2) (by omega) (by omega) p5
      (Or.inr ⟨nb,by rw[p3,List.length_append];rfl,Nat.lt_succ_self _,by omega,by omega,by rw[p4];simp⟩)
     refine⟨f2',nb2,g2,d2,s,b::more,q1,?_⟩
     exact {
      f1:=q2.f1
      f2:=q2.f2
      l1:=q2.l1
      l2:=q2.l2
      g1:=q2.g1
      g2:=q2.g2.trans p2'
      es:=q2.es
      acc:=by
       have:=q2.acc
       rwa [List.append_assoc] at this
      el:=fun c hc=> by
       rcases List.mem_cons.1 hc with rfl|hc
       ·exact eb
       ·exact q2.el c hc
      sp:=by
       rw[List.reverse_cons,List.flatten_append,Eq.dns_append,show([b]:List (List V)).flatten=b by simp]
       refine .step (a:=Eq.dns a) (b:=Eq.dns b) ?_ ?_
       ·refine⟨Eq.dn t1,Eq.dn t2,Eq.dn t3,?_,by rw[Eq.dns_len,ea.len],by rw[Eq.dns_len,eb.len]⟩
        show[_,_,_,_,V.vs (Eq.dns (a++b)) 2 0 .lock]=_
        rw[Eq.dns_append];rfl
       ·have:=q2.sp
        simpa using this
      len:=by
       show more.length+1≤V.rk (V.vs (a++b) 2 (ZmI Tryz.prog 26) o)
       rw[hrk]
       have:=q2.len
       omega}
  ·refine Z2x (Z:=fun X=> ∃f' nb' g' d' s more,X=some [(.exit 0,S 29 f' [] (mkH nb' g' d'))]∧Left r1 r2 [.int .i64 k,t1,t2,t3,t4] bs g f' nb' g' s more) f1 l1 hg hv rfl (by omega) fun f' p1 p2 p4=> ?_
   refine⟨f',nb,g,d,[.int .i64 k,t1,t2,t3,t4],[],rfl,?_⟩
   exact {
    f1:=p1
    f2:=p2.trans f2
    l1:=l1
    l2:=l2
    g1:=hg
    g2:=rfl
    es:=⟨hk,hp⟩
    acc:=by rw[List.append_nil,p4];exact hacc
    el:=fun b hb=> by cases hb
    sp:=.stop (Eq.not_two k4 (by
     by_cases hk4:k=4
     ·exact Or.inr fun h=> hgo ⟨hk4,h⟩
     ·exact Or.inl fun n hn he=> hk4 (by cases hn;exact he)))
    len:=Nat.zero_le _}
end
section
theorem Z1s {get:Nat→Blk} {nid:Nat}:ZmL Tryz.prog false get nid .len [24] [.nils]=some {v:=.int .i64 0}:=ZTe (n:=0) rfl (Or.inl rfl)
theorem ZZJ (h:H):ZCi Tryz.prog hs ks 68 [.nils] h=some [(.ret (.tup []),h)]:=by
 have hc:(EV Tryz.prog hs ks).call 68 [.nils] H.empty=some [(.ret (.tup []),H.empty)]:=by
  have W:IntKind.wrap .i64 (-1)= -1:=rfl
  have hlt:decide ((0:Int) < -1)=false:=rfl
  rw[ZW9 _ (by simp)]
  simp(disch:=first|assumption|decide|omega)[ZRi,ZOw,ZRh,ZQB,ZQv,ZQw,ZQx,ZQy,ZQz,ZQA,ZQ5,ZQ6,ZQ7,ZRd,ZQ9,ZRa,ZRb,ZRc,ZRe,ZRf,ZRg,ZQ8,ZQE,ZQ4,ZQN,ZQO,ZQW,ZQX,ZQY,ZQZ,ZQ0,ZQ1,ZQ2,ZQ3,ZQP,ZQQ,ZQR,ZQS,ZQT,ZQU,ZQV,ZQM,ZQF,ZQG,ZQH,ZQI,ZQJ,ZQK,ZQL,ZCl,ZF,JC,JB,ZR,ZS,Zo,ZE,Jx,Jw,Jq,Zw,Zk,S_h,ZH,Zz,ZM,ZK,ZL,zt,ZO,ZN,Z7,Zj,Jp,Z8,JD,JE,Zt,Z0,ZCD,ZP,ZQ,zq,zB,zz,zA,zo,Z5,zr,zO,Jy,Jz,JG,JH,Z1,Z2,Z3,Z4,ZI,Zy,JF,ZT,List.map,ZW,ZB,ZA,ZY,ZX,JO,ZZ,V.ones,Je,Jd,Jh,Jg,Jf,Ji,Jn,Jo,Jm,ZLQ,ZV,Jk,Jl,Jj,zK,ZU,zL,JA,Jt,Js,Ju,Jr,Jv,Ja,Jb,Jc,ZLP,ZLO,Z9,max2,ZLI,cond_true,cond_false,List.nil_append,List.cons_append,Z1s,W]
  rw[ZTE (I:=0) (J:= -1) (by simp[zt]) (by simp[zt]) hlt,Zo,ZOw]
  rfl
 have hr:=zPN (P:=Tryz.prog) (hint:=hs) (known:=ks) (f:=68) (args:=[.nils]) (args':=[.nils]) rfl rfl rfl rfl hc h.n {v:=.tup []} rfl rfl h rfl
 rw[hr];rfl
theorem Z2F {f:Nat→V} {nb:Nat} {g:Nat→Blk} {d:List Nat} {r1 r2:Nat} {s z:List V} {bs:List (List V)} (hne:r1≠r2) (f1:f 1=.ptr r1 0) (f2:f 2=.ptr r2 0) (l1:r1 < nb) (l2:r2 < nb) (g1:g r1=.row 0 s) (g2:g r2=.row 0 z) (hz:z.length=5) (hs5:El s) (hacc:Acc r1 r2 bs (f 4) nb g) (hel:∀b∈bs,El b) (hn:bs.length≤1048576):
 ∃v g' d',Zm1 Tryz.prog hs ks Tryz.f27 (C 27 zu0 (S 29 f [] (mkH nb g d)))=some [(.ret (.tup [.agg s,v]),mkH nb g' d')]∧((v=.nils∧bs=[])∨∃r,v=.hs r 0 bs.length bs.length 5 false∧r < nb∧g' r=.row 0 bs.reverse.flatten):=by
 have M:∀{g':Nat→Blk} {d':List Nat},g' r1=g r1→Zi3 Tryz.prog 26 (mkH nb g' d').get (.ptr r1 0)=some {v:=.agg s,rd:=[r1]}:=fun h=> ZTa (A:=[]) (X:=s) (B:=[]) (k:=0) hs5.len (by rw[Zj l1,h,g1];simp) rfl
 have St:∀{g':Nat→Blk} {d':List Nat},g' r2=g r2→ZnB Tryz.prog 26 (mkH nb g' d').get (.ptr r2 0) (.agg s)=some {v:=ZmM,rd:=[r2],wr:=[(r2,.row 0 s)]}:=fun {g' d'} h=> by
  have:=st26 (A:=[]) (X:=z) (Y:=s) (B:=[]) hz hs5.len hs5.ones (get:=(mkH nb g' d').get) (r:=r2) (off:=0) (by rw[Zj l2,h,g2];simp) rfl
  rw[this];simp
 have LV:ZCC Tryz.prog 26 s=some (.agg s):=by
  unfold ZCC
  rw[ZR5,if_pos rfl,ZLf,if_pos (by rw[hs5.len];exact Nat.le_refl _),List.take_of_length_le (by rw[hs5.len];exact Nat.le_refl _)]
 rcases hacc with ⟨h4,rfl⟩|⟨r,h4,h5,h6,h7,h8⟩
 ·have M1:=M (g':=g) (d':=d) rfl
  have S1:=St (g':=g) (d':=d) rfl
  refine⟨.nils,atB g r2 (.row 0 s),r2::d,?_,Or.inl ⟨rfl,rfl⟩⟩
  simp(disch:=first|assumption|decide|omega)[zxT,ZNQ,zxS,zxP,zBk,zBl,ZNm,ZNn,zdJ,zdK,zBP,zBQ,zdL,zdM,zdO,ZNP,zBm,ZNo,ZNp,ZNq,ZNr,ZNs,ZNt,ZNu,ZNv,ZNw,ZNx,zBn,zBs,zBt,zBW,zBv,zBx,ZNy,ZNz,ZNA,ZNB,ZNC,ZND,ZNE,ZNF,ZNG,zdI,ZNH,ZNI,ZNJ,ZNK,ZNL,ZNM,zdN,zBC,zBy,zBz,zBA,zBI,zBM,zBJ,zBK,zBL,ZNN,ZNO,zBO,ZCl,ZF,JC,JB,ZR,ZS,Zo,ZE,Jx,Jw,Jq,Zw,Zk,S_h,ZH,Zz,ZM,ZK,ZL,zt,ZO,ZN,Z7,Zj,Jp,Z8,JD,JE,Zt,Z0,ZCD,ZP,ZQ,zq,zB,zz,zA,zo,Z5,zr,zO,Jy,Jz,JG,JH,Z1,Z2,Z3,Z4,ZI,Zy,JF,ZT,List.map,ZW,ZB,ZA,ZY,ZX,JO,ZZ,V.ones,Je,Jd,Jh,Jg,Jf,Ji,Jn,Jo,Jm,ZLQ,ZV,Jk,Jl,Jj,zK,ZU,zL,JA,Jt,Js,Ju,Jr,Jv,Ja,Jb,Jc,ZLP,ZLO,Z9,max2,ZLI,cond_true,cond_false,List.nil_append,List.cons_append,f1,f2,h4,ZZJ,M1,S1,zxT,LV]
 ·obtain⟨g',d',q1,q2,q3⟩:=f68 (r:=r) bs (fun b hb=> ⟨(hel b hb).len,(hel b hb).ones⟩) (by omega) (d:=d) h5 h8
  have e1:g' r1=g r1:=q3 r1 (Ne.symm h6)
  have e2:g' r2=g r2:=q3 r2 (Ne.symm h7)
  have M1:=M (d':=d') e1
  have S1:=St (d':=d') e2
  have CC:ZCi Tryz.prog hs ks 68 [.hs r 0 bs.length bs.length 5 false] (mkH nb g d)=some [(.ret (.tup []),mkH nb g' d')]:=by
   rw[zwH rfl];exact q1
  refine⟨.hs r 0 bs.length bs.length 5 false,atB g' r2 (.row 0 s),r2::d',?_,Or.inr ⟨r,rfl,h5,by rw[ZN _ _ h7];exact q2⟩⟩
  simp(disch:=first|assumption|decide|omega)[zxT,ZNQ,zxS,zxP,zBk,zBl,ZNm,ZNn,zdJ,zdK,zBP,zBQ,zdL,zdM,zdO,ZNP,zBm,ZNo,ZNp,ZNq,ZNr,ZNs,ZNt,ZNu,ZNv,ZNw,ZNx,zBn,zBs,zBt,zBW,zBv,zBx,ZNy,ZNz,ZNA,ZNB,ZNC,ZND,ZNE,ZNF,ZNG,zdI,ZNH,ZNI,ZNJ,ZNK,ZNL,ZNM,zdN,zBC,zBy,zBz,zBA,zBI,zBM,zBJ,zBK,zBL,ZNN,ZNO,zBO,ZCl,ZF,JC,JB,ZR,ZS,Zo,ZE,Jx,Jw,Jq,Zw,Zk,S_h,ZH,Zz,ZM,ZK,ZL,zt,ZO,ZN,Z7,Zj,Jp,Z8,JD,JE,Zt,Z0,ZCD,ZP,ZQ,zq,zB,zz,zA,zo,Z5,zr,zO,Jy,Jz,JG,JH,Z1,Z2,Z3,Z4,ZI,Zy,JF,ZT,List.map,ZW,ZB,ZA,ZY,ZX,JO,ZZ,V.ones,Je,Jd,Jh,Jg,Jf,Ji,Jn,Jo,Jm,ZLQ,ZV,Jk,Jl,Jj,zK,ZU,zL,JA,Jt,Js,Ju,Jr,Jv,Ja,Jb,Jc,ZLP,ZLO,Z9,max2,ZLI,cond_true,cond_false,List.nil_append,List.cons_append,f1,f2,h4,CC,M1,S1,zxT,LV]
end
section
theorem ZZ3 {t:List V} {Z:Option (List (Go.Ae.R×H))→Prop} (hz:∀f g,f 1=.ptr 0 0→f 2=.ptr 1 0→f 4=.nils→g 0=.row 0 t→g 1=.row 0 z5→Z (Zm1 Tryz.prog hs ks Tryz.f27 (thenV (ZmZ 0 (C 27 zcL (S 29 f [] (mkH 2 g [])))) (C 27 zu0)))):Z ((EV Tryz.prog hs ks).call 27 [.agg t] H.empty):=by
 rw[zSv _ (by simp),zDI]
 simp(disch:=first|assumption|decide|omega)[zxT,ZNQ,zxS,zxP,zBk,zBl,ZNm,ZNn,zdJ,zdK,zBP,zBQ,zdL,zdM,zdO,ZNP,zBm,ZNo,ZNp,ZNq,ZNr,ZNs,ZNt,ZNu,ZNv,ZNw,ZNx,zBn,zBs,zBt,zBW,zBv,zBx,ZNy,ZNz,ZNA,ZNB,ZNC,ZND,ZNE,ZNF,ZNG,zdI,ZNH,ZNI,ZNJ,ZNK,ZNL,ZNM,zdN,zBC,zBy,zBz,zBA,zBI,zBM,zBJ,zBK,zBL,ZNN,ZNO,zBO,ZCl,ZF,JC,JB,ZR,ZS,Zo,ZE,Jx,Jw,Jq,Zw,Zk,S_h,ZH,Zz,ZM,ZK,ZL,zt,ZO,ZN,Z7,Zj,Jp,Z8,JD,JE,Zt,Z0,ZCD,ZP,ZQ,zq,zB,zz,zA,zo,Z5,zr,zO,Jy,Jz,JG,JH,Z1,Z2,Z3,Z4,ZI,Zy,JF,ZT,List.map,ZW,ZB,ZA,ZY,ZX,JO,ZZ,V.ones,Je,Jd,Jh,Jg,Jf,Ji,Jn,Jo,Jm,ZLQ,ZV,Jk,Jl,Jj,zK,ZU,zL,JA,Jt,Js,Ju,Jr,Jv,Ja,Jb,Jc,ZLP,ZLO,Z9,max2,ZLI,cond_true,cond_false,List.nil_append,List.cons_append]
 exact hz _ _ (by simp[zt]) (by simp[zt]) (by simp[zt]) (by simp[atB,at1]) (by simp[atB,at1,z5])
theorem f27 {t:List V} (ht:El t) (hM:V.rk (t.getD 4 ZmM)≤1048576):∃s bs v nb g d,(EV Tryz.prog hs ks).call 27 [.agg t] H.empty=some [(.ret (.tup [.agg s,v]),mkH nb g d)]∧El s∧(∀b∈bs,El b)∧((v=.nils∧bs=[])∨∃r,v=.hs r 0 bs.length bs.length 5 false∧r < nb∧g r=.row 0 bs.reverse.flatten)∧Eq.SpR (Eq.dns t) (Eq.dns s) (Eq.dns bs.reverse.flatten)∧bs.length≤V.rk (t.getD 4 ZmM):=by
 refine ZZ3 (Z:=fun X=> ∃s bs v nb g d,X=some [(.ret (.tup [.agg s,v]),mkH nb g d)]∧El s∧(∀b∈bs,El b)∧((v=.nils∧bs=[])∨∃r,v=.hs r 0 bs.length bs.length 5 false∧r < nb∧g r=.row 0 bs.reverse.flatten)∧Eq.SpR (Eq.dns t) (Eq.dns s) (Eq.dns bs.reverse.flatten)∧bs.length≤V.rk (t.getD 4 ZmM)) fun f g f1 f2 f4 g0 g1=> ?_
 obtain⟨f',nb',g',d',s,more,h1,L⟩:=ZYt (r1:=0) (r2:=1) (by omega) _ t [] f 2 g [] (Nat.lt_succ_self _) ht (by rw[List.length_nil];omega) (fun b hb=> by cases hb) f1 f2 (by omega) (by omega) g0 (Or.inl ⟨f4,rfl⟩)
 have hacc:=L.acc
 rw[List.nil_append] at hacc
 obtain⟨v,g2,d2,q1,q2⟩:=Z2F (by omega) L.f1 L.f2 L.l1 L.l2 L.g1 (L.g2.trans g1) rfl L.es hacc L.el (Nat.le_trans L.len hM) (d:=d')
 refine⟨s,more,v,nb',g2,d2,?_,L.es,L.el,q2,L.sp,L.len⟩
 rw[h1,Zo,ZF]
 exact q1
theorem ZSE {h:H} {d:Nat}:∀{ks:List K} {l:List V},TKs Tryz.prog Eq.KD ks l→V.pures l=true→ZC5 (Go.Ae.freeze h (d+1)) l=some l
 |_,_,.nil,_=> rfl
 |_,_,.cons (v:=v) (vs:=vs) hk ht,hp=> by
  have hp:(V.pure v && V.pures vs)=true:=hp
  rw[Bool.and_eq_true] at hp
  unfold ZC5
  rw[ZPD (hk.stab hp.1),ZSE ht hp.2]
theorem ZXl {f:V→Option V}:∀{a b:List V},ZC5 f a=some a→ZC5 f b=some b→ZC5 f (a++b)=some (a++b)
 |[],b,_,h=> h
 |x::a,b,h1,h2=> by
  unfold ZC5 at h1
  split at h1
  ·rename_i v vs e1 e2
   cases h1
   show(match f x,ZC5 f (a++b) with
    |some v,some vs=> some (v::vs)
    |_,_=> none)=_
   rw[e1,ZXl e2 h2];rfl
  ·cases h1
theorem ZWq {h:H} {d:Nat}:∀{l:List (List V)},(∀b∈l,El b)→ZC5 (Go.Ae.freeze h (d+1)) l.flatten=some l.flatten
 |[],_=> rfl
 |b::l,hl=> by
  rw[List.flatten_cons]
  exact ZXl (ZSE (hl b (List.mem_cons_self ..)).1 (hl b (List.mem_cons_self ..)).2) (ZWq fun c hc=> hl c (List.mem_cons_of_mem _ hc))
theorem ZZe:∀{l:List (List V)},(∀b∈l,El b)→TKn Tryz.prog Eq.KD Eq.Tk l.length l.flatten∧V.pures l.flatten=true
 |[],_=> ⟨.nil,rfl⟩
 |b::l,hl=> by
  obtain⟨h1,h2⟩:=ZZe fun c hc=> hl c (List.mem_cons_of_mem _ hc)
  rw[List.flatten_cons]
  exact⟨.cons (hl b (List.mem_cons_self ..)).1 h1,by rw[ZLC,(hl b (List.mem_cons_self ..)).2,h2];rfl⟩
theorem tot27:ZK0 Tryz.prog Eq.KD hs ks 27 Eq.s27.ps Eq.s27.al false Eq.s27.pre none:=by
 intro args ha hp _ hpre _ n
 obtain⟨t,rfl,hk⟩:∃t,args=[.agg t]∧TKs Tryz.prog Eq.KD Eq.Tk t:=by
  match args,ha with
  |[v],ha=>
   obtain⟨cs,rfl,h⟩:=ha.1
   exact⟨cs,rfl,h⟩
 have hpt:V.pures t=true:=by
  have h:(V.pures t && true)=true:=hp
  rwa [Bool.and_true] at h
 have hel:El t:=⟨hk,hpt⟩
 have hM:V.rk (t.getD 4 ZmM)≤1048576:=by
  have h:=hpre (0,4,Eq.M) (List.mem_cons_self ..)
  match t,hel.len with
  |[a0,a1,a2,a3,a4],_=> exact h
 obtain⟨s,bs,v,nb,g,d,hc,es,eb,hv,hsp,hlen⟩:=f27 hel hM
 have hbr:∀b∈bs.reverse,El b:=fun b hb=> eb b (List.mem_reverse.1 hb)
 obtain⟨k1,k2⟩:=ZZe hbr
 rw[List.length_reverse] at k1
 obtain⟨w,hw,hwk,hws,hwl⟩:∃w,ZD3 n (mkH nb g d) (.tup [.agg s,v])=some {v:=.tup [.agg s,w]}∧TK Tryz.prog Eq.KD (.sl 26 false maxLen) w∧slC w=bs.reverse.flatten∧V.lenN w=bs.length∧V.pure w=true:=by
  have fs:∀k,Go.Ae.freeze (mkH nb g d) (k+2) (.agg s)=some (.agg s):=fun k=> by
   show(ZC5 (Go.Ae.freeze (mkH nb g d) (k+1)) s).map V.agg=_
   rw[ZSE es.1 es.2];rfl
  rcases hv with ⟨rfl,rfl⟩|⟨r,rfl,hr,hg⟩
  ·refine⟨.nils,?_,.nils,rfl,rfl,rfl⟩
   show(match (ZC5 (Go.Ae.freeze (mkH nb g d) 59) [.agg s,.nils]).map V.tup with
    |some v=> some (Eff.mk v [] [] [] false)
    |none=> none)=_
   have:ZC5 (Go.Ae.freeze (mkH nb g d) 59) [.agg s,.nils]=some [.agg s,.nils]:=by
    unfold ZC5
    rw[fs 57]
    rfl
   rw[this];rfl
  ·have hb:bs.length≤1048576:=Nat.le_trans hlen hM
   have hvs:TK Tryz.prog Eq.KD (.sl 26 false maxLen) (.vs bs.reverse.flatten bs.length (ZmI Tryz.prog 26) .lock):=.vs (by rw[ZLf];rfl) (by unfold maxLen;omega) (by unfold maxLen;omega) k2 k1
   rw[ZLf] at hvs
   refine⟨.vs bs.reverse.flatten bs.length 5 .lock,?_,hvs,rfl,rfl,rfl⟩
   have fh:Go.Ae.freeze (mkH nb g d) 59 (.hs r 0 bs.length bs.length 5 false)=some (.vs bs.reverse.flatten bs.length 5 .lock):=by
    have hfl:=ZSD hbr
    rw[List.length_reverse] at hfl
    unfold Go.Ae.freeze
    simp only
    rw[Zj hr,hg]
    simp only
    rw[if_pos (by rw[hfl];omega),List.drop_zero,List.take_of_length_le (by rw[hfl];exact Nat.le_refl _),ZWq hbr]
    rfl
   have:ZC5 (Go.Ae.freeze (mkH nb g d) 59) [.agg s,.hs r 0 bs.length bs.length 5 false]=some [.agg s,.vs bs.reverse.flatten bs.length 5 .lock]:=by
    unfold ZC5
    rw[fs 57]
    unfold ZC5
    rw[fh]
    rfl
   show(match (ZC5 (Go.Ae.freeze (mkH nb g d) 59) [.agg s,.hs r 0 bs.length bs.length 5 false]).map V.tup with
    |some v=> some (Eff.mk v [] [] [] false)
    |none=> none)=_
   rw[this];rfl
 obtain⟨hwl,hwp⟩:=hwl
 refine⟨{v:=.tup [.agg s,w]},?_,ZMp ⟨fun cs hv=> (by cases hv),fun u vs hv=> by cases hv;exact⟨Or.inl (by show(V.pure w && true)=true;rw[hwp];rfl),fun cs hu=> by cases hu;exact es.2⟩⟩,_,List.mem_cons_self ..,⟨_,rfl,⟨_,rfl,es.1⟩,hwk,trivial⟩,⟨?_,fun Q hQ=> ?_⟩,fun j hj=> by cases hj⟩
 ·unfold ZC3
  rw[show ks.call 27 [.agg t]=none from rfl]
  simp only
  rw[hc]
  simp only
  have hl:ZE0 hs 27 n (.ret (.tup [.agg s,v]),mkH nb g d)=some {v:=.tup [.agg s,w]}:=by
   unfold ZE0
   simp only
   rw[if_neg (by simp[Eq.hint0]),hw]
  show(match ZCT (ZE0 hs 27 n) [(.ret (.tup [.agg s,v]),mkH nb g d)] with
   |some es=> some (oneOf es)
   |none=> none)=_
  unfold ZCT
  rw[hl];rfl
 ·intro c hc
  obtain rfl:=List.mem_singleton.1 hc
  have e1:V.lenN (ZKp w)=bs.length:=by
   rw[←hwl]
   cases hwk <;> rfl
  show((V.lenN (cellC (ZKp w) 0):Nat):Int) - ((V.rk (cellC (.agg (t.map ZEY)) 4):Nat):Int)≤0
  have e2:cellC (ZKp w) 0=ZKp w:=by cases hwk <;> rfl
  have e3:V.rk (cellC (.agg (t.map ZEY)) 4)=V.rk (t.getD 4 ZmM):=by
   match t,hel.len with
   |[a0,a1,a2,a3,a4],_=>
    show V.rk (ZEY a4)=V.rk a4
    cases a4 <;> rfl
  rw[e2,e1,e3]
  omega
 ·cases hQ
  exact Eq.spI (by rw[hws];exact hsp)
end
end
end Go.Proofs.YtapdblnejhijnaaGreat.Sp
end
