/- The contracts of both sides; of the guards. -/
import Derived.Test.YtapdblnejhijnaaGreatF1
import Derived.Test.YtapdblnejhijnaaGreatF2
import Derived.Test.YtapdblnejhijnaaGreatF3
set_option linter.all false
noncomputable section
namespace Go.Proofs.YtapdblnejhijnaaGreat.Eq
section
open Go Go.Ae
section
abbrev ks:Known:=Sp.ks
theorem hkn:∀f args,hint0.heap f=false→ks.call f args=none:=fun f args h=> by
 have h:Nat.beq f 6=false:=h
 show(if f=6∧args=[] then some (V.bool true) else none)=none
 rw[if_neg fun hh=> by rw[hh.1] at h;cases h]
theorem hmk:∀c∈inl.mks,Mk2.ok Tryz.prog KD hint0 ks c:=fun c hc=> by
 obtain rfl:=List.mem_singleton.1 hc
 exact Sp.mk189
theorem tc0:ZFe Tryz.prog KD hint0 ks ZKf:=fun e he=> by cases he
theorem tc1:ZFe Tryz.prog KD hint0 ks ZTX:=ZKF hKD hkn hmk tc0 Z0v Z28
theorem tc2:ZFe Tryz.prog KD hint0 ks ZT8:=ZKF hKD hkn hmk tc1 k66 x66
theorem tc3:ZFe Tryz.prog KD hint0 ks ZRW:=ZKF hKD hkn hmk tc2 k65 x65
theorem tc5:ZFe Tryz.prog KD hint0 ks ZUf:=ZZN hKD hkn hmk rfl rfl tc3 k67 x67 k26 x26
theorem tc6:ZFe Tryz.prog KD hint0 ks ZUg:=ZKF hKD hkn hmk tc5 k75 x75
theorem tc7:ZFe Tryz.prog KD hint0 ks ZUh:=ZKF hKD hkn hmk tc6 k32 x32
theorem tc8:ZFe Tryz.prog KD hint0 ks ZUi:=ZKF hKD hkn hmk tc7 k9 x9
theorem tc9:ZFe Tryz.prog KD hint0 ks ZUj:=ZKF hKD hkn hmk tc8 k70 x70
theorem Z2G:ZFe Tryz.prog KD hint0 ks ZTY:=ZKF hKD hkn hmk tc9 k73 x73
theorem Z2H:ZFe Tryz.prog KD hint0 ks ZTZ:=ZKF hKD hkn hmk Z2G k71 x71
theorem Z2I:ZFe Tryz.prog KD hint0 ks ZT0:=ZKF hKD hkn hmk Z2H k38 x38
theorem Z2J:ZFe Tryz.prog KD hint0 ks ZT1:=ZKF hKD hkn hmk Z2I k41 x41
theorem Z2K:ZFe Tryz.prog KD hint0 ks ZT2:=ZKF hKD hkn hmk Z2J k29 x29
theorem Z2L:ZFe Tryz.prog KD hint0 ks ZT3:=ZKF hKD hkn hmk Z2K Z0x Z3a
theorem Z2M:ZFe Tryz.prog KD hint0 ks ZT4:=ZKF hKD hkn hmk Z2L Z0y Z3b
theorem Z2N:ZFe Tryz.prog KD hint0 ks ZT5:=ZKF hKD hkn hmk Z2M Z0z Z3c
theorem Z2O:ZFe Tryz.prog KD hint0 ks ZT6:=ZKF hKD hkn hmk Z2N k72 x72
theorem Z2P:ZFe Tryz.prog KD hint0 ks ZT7:=ZKF hKD hkn hmk Z2O k30 x30
theorem Z2Q:ZFe Tryz.prog KD hint0 ks ZT9:=ZKF hKD hkn hmk Z2P Z0w Z29
theorem Z2R:ZFe Tryz.prog KD hint0 ks ZUa:=ZKF hKD hkn hmk Z2Q k69 x69
theorem Z2S:ZFe Tryz.prog KD hint0 ks ZUb:=ZKF hKD hkn hmk Z2R k31 x31
theorem Z2T:ZFe Tryz.prog KD hint0 ks ZYF:=ZKF hKD hkn hmk Z2S k28 x28
theorem Z2U:ZFe Tryz.prog KD hint0 ks ZUc:=fun e he=> by
 rcases List.mem_cons.1 he with rfl|he
 ·exact⟨rfl,Sp.tot27,rfl⟩
 ·exact Z2T e he
theorem Z2V:ZFe Tryz.prog KD hint0 ks ZUd:=ZKF hKD hkn hmk Z2U k7 x7
theorem ZYH:ZFe Tryz.prog KD hint0 ks ZUe:=ZKF hKD hkn hmk Z2V k8 x8
end
section
def Sk:List K:=[.sl 49 false M,.sl 9 false maxLen]++Dk
def Z13:List (Nat×Nat×Nat×Plan):=[
 (12,3,0,⟨[],[(3,(.one (.int .i64)),0),(4,(.one .idx),0)],[],[],[((.o .z),(.v 4 0),0),((.v 4 0),(.o (.l 4)),0)],[],(.o (.l 4)),(.v 4 0),[]⟩),
 (13,3,0,⟨[],[(3,(.one .idx),0),(4,(.one .idx),0)],[],[],[((.o .z),(.v 3 0),0),((.o .z),(.v 4 0),0),((.v 4 0),(.o (.l 4)),0)],[],(.o (.l 4)),(.v 4 0),[]⟩),
 (132,4,0,⟨[],[(4,(.one .bool),0),(5,(.one .idx),0)],[],[],[((.o .z),(.v 5 0),0),((.v 5 0),(.o (.l 7)),0)],[],(.o (.l 7)),(.v 5 0),[]⟩),
 (76,4,0,⟨[],[(2,(.one .bool),0),(3,(.one .idx),0)],[],[],[((.o .z),(.v 3 0),0),((.v 3 0),(.o (.l 14)),0)],[],(.o (.l 14)),(.v 3 0),[]⟩),
 (76,9,0,⟨[],[(2,(.one .bool),0),(4,(.one .idx),0)],[],[],[((.o .z),(.v 4 0),0),((.v 4 0),(.o (.l 21)),0)],[],(.o (.l 21)),(.v 4 0),[]⟩),
 (76,14,0,⟨[],[(2,(.one .bool),0),(5,(.one .idx),0)],[],[],[((.o .z),(.v 5 0),0),((.v 5 0),(.o (.l 22)),0)],[],(.o (.l 22)),(.v 5 0),[]⟩),
 (33,2,0,⟨[],[(2,(.one .bool),0),(3,(.one .idx),0)],[],[],[((.o .z),(.v 3 0),0),((.v 3 0),(.o (.l 0)),0)],[],(.o (.l 0)),(.v 3 0),[]⟩),
 (79,5,0,⟨[],[(3,(.one .bool),0),(2,(.one .bool),0),(4,(.one .idx),0)],[],[],[((.o .z),(.v 4 0),0),((.v 4 0),(.o (.l 0)),0)],[],(.o (.l 0)),(.v 4 0),[]⟩),
 (139,4,0,⟨[],[(2,(.one .bool),0),(3,(.one .idx),0)],[],[],[((.o .z),(.v 3 0),0),((.v 3 0),(.o (.l 1)),0)],[],(.o (.l 1)),(.v 3 0),[]⟩),
 (80,4,0,⟨[],[(6,(.one .idx),0),(7,(.one .idx),0)],[],[],[((.o .z),(.v 6 0),0),((.o .z),(.v 7 0),0),((.v 7 0),(.o (.l 1)),0)],[],(.o (.l 1)),(.v 7 0),[]⟩),
 (80,9,0,⟨[],[(6,(.one .idx),0),(8,(.one .idx),0)],[],[],[((.o .z),(.v 6 0),0),((.o .z),(.v 8 0),0),((.v 8 0),(.o (.l 1)),0)],[],(.o (.l 1)),(.v 8 0),[]⟩),
 (35,8,0,⟨[],[(12,(.one .idx),0),(13,(.one .idx),0)],[],[],[((.o .z),(.v 12 0),0),((.o .z),(.v 13 0),0),((.v 13 0),(.o (.l 3)),0)],[],(.o (.l 3)),(.v 13 0),[]⟩),
 (35,18,0,⟨[],[(12,(.one .idx),0),(15,(.one .idx),0)],[],[],[((.o .z),(.v 12 0),0),((.o .z),(.v 15 0),0),((.v 15 0),(.o (.l 4)),0)],[],(.o (.l 4)),(.v 15 0),[]⟩),
 (244,2,0,⟨[],[(3,(.one (.int .i64)),0)],[(0,[(.int .i64),(.int .i64),(.str 1048576),(.sl 53 false 1048576),(.sl 26 false 1048576)])],[],[],[],(.br 0 4),(.o .z),[]⟩),
 (191,3,0,⟨[],[(3,(.one .bool),0),(4,(.one .idx),0)],[],[],[((.o .z),(.v 4 0),0),((.v 4 0),(.o (.l 14)),0)],[],(.o (.l 14)),(.v 4 0),[]⟩),
 (134,6,0,⟨[],[(2,(.one .idx),0),(3,(.one .idx),0)],[],[],[((.o .z),(.v 2 0),0),((.o .z),(.v 3 0),0),((.v 3 0),(.o (.l 22)),0)],[],(.o (.l 22)),(.v 3 0),[]⟩),
 (246,4,0,⟨[],[(4,(.one .bool),0),(5,(.one .idx),0)],[],[],[((.o .z),(.v 5 0),0),((.v 5 0),(.o (.l 7)),0)],[],(.o (.l 7)),(.v 5 0),[]⟩),
 (245,10,0,⟨[],[(4,(.one .idx),0),(7,(.one .idx),0)],[],[],[((.o .z),(.v 4 0),0),((.o .z),(.v 7 0),0),((.v 7 0),(.o (.l 29)),0)],[],(.o (.l 29)),(.v 7 0),[]⟩),
 (130,19,0,⟨[],[(8,(.one .idx),0)],[],[],[((.o .z),(.v 8 0),0),((.v 8 0),(.o (.l 75)),0)],[],(.o (.l 75)),(.v 8 0),[]⟩),
 (136,13,0,⟨[],[(4,(.one .idx),0),(7,(.one .idx),0)],[],[],[((.o .z),(.v 4 0),0),((.o .z),(.v 7 0),0),((.v 7 0),(.o (.l 15)),0)],[],(.o (.l 15)),(.v 7 0),[]⟩),
 (129,9,0,⟨[],[(3,(.one (.sl 9 false 9223372036854775807)),2),(4,(.one .idx),0)],[],[],[((.l 3 0),(.v 4 0),1),((.v 4 0),(.l 3 0),(-1)),((.o .z),(.v 4 0),0),((.v 4 0),(.o (.l 15)),0)],[],(.o (.l 15)),(.v 4 0),[]⟩),
 (136,25,0,⟨[],[(4,(.one .idx),0),(11,(.one .idx),0)],[],[38],[((.o .z),(.v 4 0),0),((.o .z),(.v 11 0),0),((.v 11 0),(.o (.l 22)),0)],[],(.o (.l 22)),(.v 11 0),[]⟩),
 (136,32,0,⟨[],[(4,(.one .idx),0),(13,(.one .idx),0)],[],[],[((.o .z),(.v 4 0),0),((.o .z),(.v 13 0),0),((.v 13 0),(.o (.l 23)),0)],[],(.o (.l 23)),(.v 13 0),[]⟩),
 (129,16,0,⟨[],[(5,(.one (.sl 9 false 9223372036854775807)),2),(6,(.one .idx),0)],[],[],[((.l 5 0),(.v 6 0),0),((.v 6 0),(.l 5 0),0),((.o .z),(.v 6 0),0),((.v 6 0),(.o (.l 23)),0)],[],(.o (.l 23)),(.v 6 0),[]⟩),
 (136,39,38,⟨[],[(4,(.one .idx),0),(15,(.one .idx),0)],[],[37],[((.o .z),(.v 4 0),0),((.o .z),(.v 15 0),0),((.v 15 0),(.o (.l 34)),0)],[],(.o (.l 34)),(.v 15 0),[]⟩),
 (136,39,32,⟨[],[(4,(.one .idx),0),(15,(.one .idx),0)],[],[31],[((.o .z),(.v 4 0),0),((.o .z),(.v 15 0),0),((.v 15 0),(.o (.l 28)),0)],[],(.o (.l 28)),(.v 15 0),[]⟩),
 (135,3,0,⟨[],[(4,(.one .idx),0),(6,(.one .idx),0)],[],[],[((.o .z),(.v 4 0),0),((.o .z),(.v 6 0),0),((.v 6 0),(.o (.l 24)),0)],[],(.o (.l 24)),(.v 6 0),[]⟩),
 (34,4,0,⟨[],[(2,(.one .idx),0),(3,(.one .idx),0),(4,(.one .idx),0)],[],[],[((.o .z),(.v 2 0),0),((.o .z),(.v 3 0),0),((.o .z),(.v 4 0),0),((.v 4 0),(.o (.l 0)),0)],[],(.o (.l 0)),(.v 4 0),[]⟩),
 (130,4,0,⟨[],[(9,(.one .idx),0)],[],[],[((.o .z),(.v 9 0),0),((.v 9 0),(.o (.l 83)),0)],[],(.o (.l 83)),(.v 9 0),[]⟩),
 (72,2,0,⟨[],[(5,(.one .idx),0),(6,(.one .idx),0)],[],[],[((.o .z),(.v 5 0),0),((.o .z),(.v 6 0),0),((.v 6 0),(.o (.l 0)),0)],[],(.o (.l 0)),(.v 6 0),[]⟩),
 (193,17,0,⟨[],[(8,(.one .idx),0),(9,(.one .idx),0)],[],[],[((.o .z),(.v 8 0),0),((.o .z),(.v 9 0),0),((.v 9 0),(.o (.l 32)),0)],[],(.o (.l 32)),(.v 9 0),[]⟩)]
def ZXY (f k x:Nat):List (Nat×Nat×Nat×Plan)→Option Plan
 |[]=> none
 |y::l=> cond (Nat.beq y.1 f && Nat.beq y.2.1 k && (Nat.beq y.2.2.1 x||Nat.beq y.2.2.1 0)) (some y.2.2.2) (ZXY f k x l)
def ZGS:Inl:={l:=[247,72,130,129],pl:=fun f k x=> ZXY f k x Z13}
def outT (l:List Nat) (t:List CE):List CE:=t.filter fun e=> !ZKK l e.f
def ZWA:Spc:={f:=137,ps:=[i1],r:=.one i1}
def ZUt:List CE:=ZWA.ce::ZUe
def g81:Spc:={f:=81,ps:=[i1,i1],r:=.one i1}
def ZUM:List CE:=g81.ce::ZUt
def ZWB:Spc:={f:=138,ps:=[.one (.int .u8)],r:=b1}
def ZUu:List CE:=ZWB.ce::ZUM
def g12:Spc:={f:=12,ps:=[.ag Tk],r:=.one i1,lim:=some (0,4)}
def ZUl:List CE:=g12.ce::ZUu
def g13:Spc:={f:=13,ps:=[.ag Tk],r:=.one i1,lim:=some (0,4)}
def ZUm:List CE:=g13.ce::ZUl
def ZWu:Spc:={f:=131,ps:=[.ag Tk],r:=b1}
def ZUn:List CE:=ZWu.ce::ZUm
def ZWv:Spc:={f:=132,ps:=[.ag Trk,i1],r:=b1,lim:=some (0,7)}
def ZUo:List CE:=ZWv.ce::ZUn
def g76:Spc:={f:=76,ps:=[.ag Dk],r:=b1}
def ZUH:List CE:=g76.ce::ZUo
def g33:Spc:={f:=33,ps:=[Env],r:=b1}
def ZUE:List CE:=g33.ce::ZUH
def g79:Spc:={f:=79,ps:=[.one (.str 1073741824)],r:=b1}
def ZUK:List CE:=g79.ce::ZUE
def ZWC:Spc:={f:=139,ps:=[.ag Lk],r:=b1}
def ZUv:List CE:=ZWC.ce::ZUK
def g80:Spc:={f:=80,ps:=[.ag Lk,i1,i1],r:=.one i1}
def ZUL:List CE:=g80.ce::ZUv
def g78:Spc:={f:=78,ps:=[.ag Tk],r:=b1}
def ZUJ:List CE:=g78.ce::ZUL
def g35:Spc:={f:=35,ps:=[.ag Tk,i1,i1,i1,i1,i1],r:=.one i1,lim:=some (0,4)}
def ZUG:List CE:=g35.ce::ZUJ
def g14:Spc:={f:=14,ps:=[.ag Tk,i1,i1,i1,i1],r:=.one i1}
def ZUw:List CE:=g14.ce::ZUG
def ZWH:Spc:={f:=244,ps:=[.ag Tk],r:=.one i1}
def ZUB:List CE:=ZWH.ce::ZUw
def ZWE:Spc:={f:=191,ps:=[.ag Dk],r:=b1}
def ZUy:List CE:=ZWE.ce::ZUB
def ZWD:Spc:={f:=190,ps:=[.ag Tk],r:=b1}
def ZUx:List CE:=ZWD.ce::ZUy
def ZWw:Spc:={f:=133,ps:=[.ag Dk],r:=b1}
def ZUp:List CE:=ZWw.ce::ZUx
def ZWx:Spc:={f:=134,ps:=[.ag Dk],r:=.one i1}
def ZUq:List CE:=ZWx.ce::ZUp
def ZWJ:Spc:={f:=246,ps:=[.ag Trk,.ag Trk],r:=b1,lim:=some (0,7)}
def ZUD:List CE:=ZWJ.ce::ZUq
def ZWI:Spc:={f:=245,ps:=[.ag Sk,.ag Tk],r:=.one i1,lim:=some (1,4)}
def ZUC:List CE:=ZWI.ce::ZUD
def ZWF:Spc:={f:=192,ps:=[.ag Sk,.ag Tk,i1,i1],r:=.one i1}
def ZUz:List CE:=ZWF.ce::ZUC
def ZWG:Spc:={f:=193,ps:=[.ag Sk,.ag Trk,i1,i1],r:=.one i1,lim:=some (1,7),pre:=[(0,0,M)]}
def ZUA:List CE:=ZWG.ce::ZUz
def ZWz:Spc:={f:=136,ps:=[Env,.ag Dk],r:=.one i1,pre:=[(0,0,M)]}
def ZUs:List CE:=ZWz.ce::ZUA
def ZWy:Spc:={f:=135,ps:=[Env,.ag Dk],r:=.one i1}
def ZUr:List CE:=ZWy.ce::ZUs
def g77:Spc:={f:=77,ps:=[Env,.ag Dk],r:=.one i1,pre:=[(0,0,M)]}
def ZUI:List CE:=g77.ce::ZUr
def g34:Spc:={f:=34,ps:=[Env],r:=.tup [i1,i1],pre:=[(0,0,M)]}
def ZUF:List CE:=g34.ce::ZUI
def g11:Spc:={f:=11,ps:=[Env],r:=b1,pre:=[(0,0,M)]}
def ZUk:List CE:=g11.ce::ZUF
def g4:Spc:={f:=4,ps:=[.ag [.sl 49 false M,.sl 447 false M,.sl 9 false M,.sl 9 false M,.sl 556 false M,.sl 9 false M,.sl 9 false M]],r:=b1,pre:=[(0,0,M)]}
def tg4:List CE:=g4.ce::ZUk
def g5:Spc:={f:=5,ps:=[.ag Tk,i1],r:=b1}
def tg5:List CE:=g5.ce::tg4
end
end
end Go.Proofs.YtapdblnejhijnaaGreat.Eq
end
