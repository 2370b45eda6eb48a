/- Known calls of the self-test: values, hints. -/
import Derived.Test.YtdlaladdeelegaaGreatA7
import Derived.Test.YtdlaladdeelegaaGreatProg
import Derived.KernelRfl
set_option linter.all false
noncomputable section
namespace Go.Proofs.YtdlaladdeelegaaGreat.Tb
section
open Go Go.Ae
section
def hint:Hint where
 heap f:=Nat.beq f 22||Nat.beq f 101||Nat.beq f 153||Nat.beq f 123
 rows f d:=match d with
  |some d=> (Nat.beq f 22 && Nat.beq d 41)||(Nat.beq f 22 && Nat.beq d 58)||(Nat.beq f 22 && Nat.beq d 68)||(Nat.beq f 57 && Nat.beq d 20)||(Nat.beq f 19 && Nat.beq d 79)||(Nat.beq f 153 && Nat.beq d 29)||(Nat.beq f 37 && Nat.beq d 60)||(Nat.beq f 123 && Nat.beq d 7)
  |none=> false
 fix f r:=cond (Nat.beq f 19 && Nat.beq r 16) [82] ([])
 frame f:=Nat.beq f 130||Nat.beq f 128||Nat.beq f 52
def idl:List FuncId:=[105,114,116,142,166,183,236,35,99]
def ZDS:Nat→Nat→List (Nat×Blk)→List Blk
 |0,_,_=> []
 |k+1,i,[]=> .gone::ZDS k (i+1) []
 |k+1,i,(j,b)::l=> cond (Nat.beq i j) (b::ZDS k (i+1) l) (.gone::ZDS k (i+1) ((j,b)::l))
def c0:V:=(.vs [(.int .i64 0),(.int .i64 0)] 1 2 .tight)
def c1:V:=(.vs [(.int .i64 0),c0] 1 2 .tight)
def c2:V:=(.vs [(.int .i64 0),(.int .i64 1),(.str ⟨#[]⟩),.nils,.nils,(.int .i64 1),(.int .i64 0),(.str ⟨#[]⟩),.nils,.nils] 2 5 .tight)
def c3:V:=(.vs [(.int .i64 0),(.int .i64 0),(.str ⟨#[]⟩),.nils,.nils,(.int .i64 6),(.int .i64 0),(.str ⟨#[]⟩),.nils,c2] 2 5 .tight)
def c4:V:=(.vs [(.int .i64 2),(.int .i64 0),(.str ⟨#[]⟩),c1,.nils,(.int .i64 6),(.int .i64 0),(.str ⟨#[]⟩),.nils,c3] 2 5 .tight)
def c5:V:=(.agg [(.int .i64 6),(.int .i64 0),(.str ⟨#[]⟩),.nils,c4])
def c6:V:=(.vs [(.int .i64 3),(.int .i64 0),(.str ⟨#[69,113]⟩),c1,.nils,(.int .i64 0),(.int .i64 1),(.str ⟨#[]⟩),.nils,.nils] 2 5 .tight)
def c7:V:=(.vs [(.int .i64 4),(.int .i64 0),(.str ⟨#[]⟩),.nils,c6,(.int .i64 0),(.int .i64 0),(.str ⟨#[]⟩),.nils,.nils] 2 5 .tight)
def c8:V:=(.vs [(.int .i64 4),(.int .i64 0),(.str ⟨#[]⟩),.nils,c7,(.int .i64 0),(.int .i64 0),(.str ⟨#[]⟩),.nils,.nils] 2 5 .tight)
def c9:V:=(.vs [(.int .i64 0),(.int .i64 0),(.str ⟨#[]⟩),.nils,.nils,(.int .i64 4),(.int .i64 0),(.str ⟨#[]⟩),.nils,c8] 2 5 .tight)
def c10:V:=(.vs [(.int .i64 2),(.int .i64 0),(.str ⟨#[]⟩),c1,.nils,(.int .i64 6),(.int .i64 0),(.str ⟨#[]⟩),.nils,c9] 2 5 .tight)
def c11:V:=(.agg [(.int .i64 6),(.int .i64 0),(.str ⟨#[]⟩),.nils,c10])
def c12:V:=(.vs [(.int .i64 3),(.int .i64 0),(.str ⟨#[69,113]⟩),c1,.nils,(.int .i64 0),(.int .i64 2),(.str ⟨#[]⟩),.nils,.nils] 2 5 .tight)
def c13:V:=(.vs [(.int .i64 4),(.int .i64 0),(.str ⟨#[]⟩),.nils,c12,(.int .i64 0),(.int .i64 1),(.str ⟨#[]⟩),.nils,.nils] 2 5 .tight)
def c14:V:=(.vs [(.int .i64 4),(.int .i64 0),(.str ⟨#[]⟩),.nils,c13,(.int .i64 0),(.int .i64 0),(.str ⟨#[]⟩),.nils,.nils] 2 5 .tight)
def c15:V:=(.vs [(.int .i64 3),(.int .i64 0),(.str ⟨#[69,113]⟩),c1,.nils,(.int .i64 0),(.int .i64 3),(.str ⟨#[]⟩),.nils,.nils] 2 5 .tight)
def c16:V:=(.vs [(.int .i64 4),(.int .i64 0),(.str ⟨#[]⟩),.nils,c15,(.int .i64 0),(.int .i64 1),(.str ⟨#[]⟩),.nils,.nils] 2 5 .tight)
def c17:V:=(.vs [(.int .i64 4),(.int .i64 0),(.str ⟨#[]⟩),.nils,c16,(.int .i64 0),(.int .i64 2),(.str ⟨#[]⟩),.nils,.nils] 2 5 .tight)
def c18:V:=(.vs [(.int .i64 4),(.int .i64 0),(.str ⟨#[]⟩),.nils,c14,(.int .i64 4),(.int .i64 0),(.str ⟨#[]⟩),.nils,c17] 2 5 .tight)
def c19:V:=(.vs [(.int .i64 0),(.int .i64 1),(.str ⟨#[]⟩),.nils,.nils,(.int .i64 6),(.int .i64 0),(.str ⟨#[]⟩),.nils,c18] 2 5 .tight)
def c20:V:=(.vs [(.int .i64 0),(.int .i64 0),(.str ⟨#[]⟩),.nils,.nils,(.int .i64 6),(.int .i64 0),(.str ⟨#[]⟩),.nils,c19] 2 5 .tight)
def c21:V:=(.vs [(.int .i64 2),(.int .i64 0),(.str ⟨#[]⟩),c1,.nils,(.int .i64 6),(.int .i64 0),(.str ⟨#[]⟩),.nils,c20] 2 5 .tight)
def c22:V:=(.agg [(.int .i64 6),(.int .i64 0),(.str ⟨#[]⟩),.nils,c21])
def c23:V:=(.vs [(.int .i64 1),(.int .i64 0)] 1 2 .tight)
def c24:V:=(.vs [(.int .i64 0),c23] 1 2 .tight)
def c25:V:=(.vs [(.int .i64 0),(.int .i64 1),(.str ⟨#[]⟩),.nils,.nils,(.int .i64 0),(.int .i64 1),(.str ⟨#[]⟩),.nils,.nils] 2 5 .tight)
def c26:V:=(.vs [(.int .i64 0),(.int .i64 2),(.str ⟨#[]⟩),.nils,.nils,(.int .i64 0),(.int .i64 2),(.str ⟨#[]⟩),.nils,.nils] 2 5 .tight)
def c27:V:=(.vs [(.int .i64 0),(.int .i64 0),(.int .i64 1),(.int .i64 0)] 2 2 .tight)
def c28:V:=(.vs [(.int .i64 0),c27] 1 2 .tight)
def c29:V:=(.vs [(.int .i64 0),(.int .i64 5),(.str ⟨#[]⟩),.nils,.nils,(.int .i64 0),(.int .i64 5),(.str ⟨#[]⟩),.nils,.nils] 2 5 .tight)
def c30:V:=(.vs [(.int .i64 3),(.int .i64 0),(.str ⟨#[69,113]⟩),c28,.nils,(.int .i64 6),(.int .i64 0),(.str ⟨#[]⟩),.nils,c29] 2 5 .tight)
def c31:V:=(.vs [(.int .i64 4),(.int .i64 0),(.str ⟨#[]⟩),.nils,c30,(.int .i64 0),(.int .i64 3),(.str ⟨#[]⟩),.nils,.nils] 2 5 .tight)
def c32:V:=(.vs [(.int .i64 4),(.int .i64 0),(.str ⟨#[]⟩),.nils,c31,(.int .i64 0),(.int .i64 2),(.str ⟨#[]⟩),.nils,.nils] 2 5 .tight)
def c33:V:=(.vs [(.int .i64 3),(.int .i64 0),(.str ⟨#[69,113]⟩),c1,.nils,(.int .i64 0),(.int .i64 6),(.str ⟨#[]⟩),.nils,.nils] 2 5 .tight)
def c34:V:=(.vs [(.int .i64 4),(.int .i64 0),(.str ⟨#[]⟩),.nils,c33,(.int .i64 0),(.int .i64 2),(.str ⟨#[]⟩),.nils,.nils] 2 5 .tight)
def c35:V:=(.vs [(.int .i64 4),(.int .i64 0),(.str ⟨#[]⟩),.nils,c34,(.int .i64 0),(.int .i64 1),(.str ⟨#[]⟩),.nils,.nils] 2 5 .tight)
def c36:V:=(.vs [(.int .i64 3),(.int .i64 0),(.str ⟨#[69,113]⟩),c24,.nils,(.int .i64 0),(.int .i64 6),(.str ⟨#[]⟩),.nils,.nils] 2 5 .tight)
def c37:V:=(.vs [(.int .i64 0),(.int .i64 5),(.str ⟨#[]⟩),.nils,.nils,(.int .i64 0),(.int .i64 3),(.str ⟨#[]⟩),.nils,.nils] 2 5 .tight)
def c38:V:=(.vs [(.int .i64 4),(.int .i64 0),(.str ⟨#[]⟩),.nils,c36,(.int .i64 4),(.int .i64 0),(.str ⟨#[]⟩),.nils,c37] 2 5 .tight)
def c39:V:=(.vs [(.int .i64 0),(.int .i64 4),(.str ⟨#[]⟩),.nils,.nils,(.int .i64 0),(.int .i64 2),(.str ⟨#[]⟩),.nils,.nils] 2 5 .tight)
def c40:V:=(.vs [(.int .i64 4),(.int .i64 0),(.str ⟨#[]⟩),.nils,c38,(.int .i64 4),(.int .i64 0),(.str ⟨#[]⟩),.nils,c39] 2 5 .tight)
def c41:V:=(.vs [(.int .i64 4),(.int .i64 0),(.str ⟨#[]⟩),.nils,c35,(.int .i64 4),(.int .i64 0),(.str ⟨#[]⟩),.nils,c40] 2 5 .tight)
def c42:V:=(.vs [(.int .i64 4),(.int .i64 0),(.str ⟨#[]⟩),.nils,c32,(.int .i64 6),(.int .i64 0),(.str ⟨#[]⟩),.nils,c41] 2 5 .tight)
def c43:V:=(.vs [(.int .i64 0),(.int .i64 4),(.str ⟨#[]⟩),.nils,.nils,(.int .i64 6),(.int .i64 0),(.str ⟨#[]⟩),.nils,c42] 2 5 .tight)
def c44:V:=(.vs [(.int .i64 0),(.int .i64 3),(.str ⟨#[]⟩),.nils,.nils,(.int .i64 6),(.int .i64 0),(.str ⟨#[]⟩),.nils,c43] 2 5 .tight)
def c45:V:=(.vs [(.int .i64 6),(.int .i64 0),(.str ⟨#[]⟩),.nils,c26,(.int .i64 6),(.int .i64 0),(.str ⟨#[]⟩),.nils,c44] 2 5 .tight)
def c46:V:=(.vs [(.int .i64 6),(.int .i64 0),(.str ⟨#[]⟩),.nils,c25,(.int .i64 6),(.int .i64 0),(.str ⟨#[]⟩),.nils,c45] 2 5 .tight)
def c47:V:=(.vs [(.int .i64 2),(.int .i64 0),(.str ⟨#[]⟩),c24,.nils,(.int .i64 6),(.int .i64 0),(.str ⟨#[]⟩),.nils,c46] 2 5 .tight)
def c48:V:=(.vs [(.int .i64 2),(.int .i64 0),(.str ⟨#[]⟩),c1,.nils,(.int .i64 6),(.int .i64 0),(.str ⟨#[]⟩),.nils,c47] 2 5 .tight)
def c49:V:=(.agg [(.int .i64 6),(.int .i64 0),(.str ⟨#[]⟩),.nils,c48])
def c50:V:=(.vs [(.int .i64 4),(.int .i64 0),(.str ⟨#[]⟩),.nils,c15,(.int .i64 0),(.int .i64 2),(.str ⟨#[]⟩),.nils,.nils] 2 5 .tight)
def c51:V:=(.vs [(.int .i64 4),(.int .i64 0),(.str ⟨#[]⟩),.nils,c50,(.int .i64 0),(.int .i64 1),(.str ⟨#[]⟩),.nils,.nils] 2 5 .tight)
def c52:V:=(.vs [(.int .i64 3),(.int .i64 0),(.str ⟨#[69,113]⟩),c1,.nils,(.int .i64 0),(.int .i64 4),(.str ⟨#[]⟩),.nils,.nils] 2 5 .tight)
def c53:V:=(.vs [(.int .i64 4),(.int .i64 0),(.str ⟨#[]⟩),.nils,c52,(.int .i64 0),(.int .i64 2),(.str ⟨#[]⟩),.nils,.nils] 2 5 .tight)
def c54:V:=(.vs [(.int .i64 4),(.int .i64 0),(.str ⟨#[]⟩),.nils,c53,(.int .i64 0),(.int .i64 1),(.str ⟨#[]⟩),.nils,.nils] 2 5 .tight)
def c55:V:=(.vs [(.int .i64 3),(.int .i64 0),(.str ⟨#[69,113]⟩),c1,.nils,(.int .i64 0),(.int .i64 5),(.str ⟨#[]⟩),.nils,.nils] 2 5 .tight)
def c56:V:=(.vs [(.int .i64 4),(.int .i64 0),(.str ⟨#[]⟩),.nils,c55,(.int .i64 0),(.int .i64 4),(.str ⟨#[]⟩),.nils,.nils] 2 5 .tight)
def c57:V:=(.vs [(.int .i64 4),(.int .i64 0),(.str ⟨#[]⟩),.nils,c56,(.int .i64 0),(.int .i64 2),(.str ⟨#[]⟩),.nils,.nils] 2 5 .tight)
def c58:V:=(.vs [(.int .i64 4),(.int .i64 0),(.str ⟨#[]⟩),.nils,c54,(.int .i64 4),(.int .i64 0),(.str ⟨#[]⟩),.nils,c57] 2 5 .tight)
def c59:V:=(.vs [(.int .i64 4),(.int .i64 0),(.str ⟨#[]⟩),.nils,c51,(.int .i64 6),(.int .i64 0),(.str ⟨#[]⟩),.nils,c58] 2 5 .tight)
def c60:V:=(.vs [(.int .i64 0),(.int .i64 2),(.str ⟨#[]⟩),.nils,.nils,(.int .i64 6),(.int .i64 0),(.str ⟨#[]⟩),.nils,c59] 2 5 .tight)
def c61:V:=(.vs [(.int .i64 0),(.int .i64 1),(.str ⟨#[]⟩),.nils,.nils,(.int .i64 6),(.int .i64 0),(.str ⟨#[]⟩),.nils,c60] 2 5 .tight)
def c62:V:=(.vs [(.int .i64 0),(.int .i64 0),(.str ⟨#[]⟩),.nils,.nils,(.int .i64 6),(.int .i64 0),(.str ⟨#[]⟩),.nils,c61] 2 5 .tight)
def c63:V:=(.vs [(.int .i64 2),(.int .i64 0),(.str ⟨#[]⟩),c1,.nils,(.int .i64 6),(.int .i64 0),(.str ⟨#[]⟩),.nils,c62] 2 5 .tight)
def c64:V:=(.agg [(.int .i64 6),(.int .i64 0),(.str ⟨#[]⟩),.nils,c63])
def c65:V:=(.vs [(.int .i64 1),(.int .i64 0),(.int .i64 1),(.int .i64 2),(.int .i64 1),(.int .i64 3)] 3 2 .tight)
def c66:V:=(.vs [(.int .i64 4),(.int .i64 0),(.int .i64 3),(.int .i64 2)] 2 2 .tight)
def c67:V:=(.vs [(.int .i64 0),.nils] 1 2 .tight)
def c68:V:=(.vs [(.int .i64 3),(.int .i64 0),(.str ⟨#[78]⟩),.nils,.nils,(.int .i64 3),(.int .i64 0),(.str ⟨#[78]⟩),.nils,.nils] 2 5 .tight)
def c69:V:=(.vs [(.int .i64 0),(.str ⟨#[69,113]⟩),(.int .i64 1),(.int .i64 6),(.int .i64 0),(.str ⟨#[]⟩),.nils,c4,(.int .i64 0),(.int .i64 0),(.str ⟨#[]⟩),.nils,.nils,(.int .i64 0),.nils,(.int .i64 0),(.int .i64 0),(.int .i64 0),(.str ⟨#[]⟩),.nils,.nils,.nils,.nils,(.int .i64 0),(.str ⟨#[69,113,46,114,101,102,108]⟩),(.int .i64 1),(.int .i64 6),(.int .i64 0),(.str ⟨#[]⟩),.nils,c10,(.int .i64 0),(.int .i64 0),(.str ⟨#[]⟩),.nils,.nils,(.int .i64 0),.nils,(.int .i64 0),(.int .i64 0),(.int .i64 0),(.str ⟨#[]⟩),.nils,.nils,.nils,.nils,(.int .i64 0),(.str ⟨#[69,113,46,115,121,109,109]⟩),(.int .i64 1),(.int .i64 6),(.int .i64 0),(.str ⟨#[]⟩),.nils,c21,(.int .i64 0),(.int .i64 0),(.str ⟨#[]⟩),.nils,.nils,(.int .i64 0),.nils,(.int .i64 0),(.int .i64 0),(.int .i64 0),(.str ⟨#[]⟩),.nils,.nils,.nils,.nils,(.int .i64 0),(.str ⟨#[69,113,46,116,114,97,110,115]⟩),(.int .i64 1),(.int .i64 6),(.int .i64 0),(.str ⟨#[]⟩),.nils,c63,(.int .i64 0),(.int .i64 0),(.str ⟨#[]⟩),.nils,.nils,(.int .i64 0),.nils,(.int .i64 0),(.int .i64 0),(.int .i64 0),(.str ⟨#[]⟩),.nils,.nils,.nils,.nils,(.int .i64 0),(.str ⟨#[69,113,46,99,111,110,103,114]⟩),(.int .i64 2),(.int .i64 6),(.int .i64 0),(.str ⟨#[]⟩),.nils,c48,(.int .i64 0),(.int .i64 0),(.str ⟨#[]⟩),.nils,.nils,(.int .i64 0),.nils,(.int .i64 0),(.int .i64 0),(.int .i64 0),(.str ⟨#[]⟩),.nils,.nils,.nils,.nils,(.int .i64 0),(.str ⟨#[78]⟩),(.int .i64 0),(.int .i64 2),(.int .i64 0),(.str ⟨#[]⟩),c67,.nils,(.int .i64 0),(.int .i64 0),(.str ⟨#[]⟩),.nils,.nils,(.int .i64 0),.nils,(.int .i64 0),(.int .i64 0),(.int .i64 0),(.str ⟨#[]⟩),.nils,.nils,.nils,.nils,(.int .i64 0),(.str ⟨#[115]⟩),(.int .i64 0),(.int .i64 6),(.int .i64 0),(.str ⟨#[]⟩),.nils,c68,(.int .i64 0),(.int .i64 0),(.str ⟨#[]⟩),.nils,.nils,(.int .i64 0),.nils,(.int .i64 0),(.int .i64 0),(.int .i64 0),(.str ⟨#[]⟩),.nils,.nils,.nils,.nils] 7 23 .lock)
def c70:V:=(.agg [(.int .i64 0),(.int .i64 0),(.str ⟨#[]⟩),.nils,.nils])
def c71:V:=(.agg [(.int .i64 0),(.int .i64 1),(.str ⟨#[]⟩),.nils,.nils])
def c72:V:=(.agg [(.int .i64 1),(.int .i64 0),(.str ⟨#[]⟩),.nils,.nils])
def c73:V:=(.agg [(.int .i64 0),(.int .i64 2),(.str ⟨#[]⟩),.nils,.nils])
def c74:V:=(.agg [(.int .i64 0),(.int .i64 3),(.str ⟨#[]⟩),.nils,.nils])
def c75:V:=(.agg [(.int .i64 0),(.int .i64 4),(.str ⟨#[]⟩),.nils,.nils])
def c76:V:=(.agg [(.int .i64 0),(.int .i64 5),(.str ⟨#[]⟩),.nils,.nils])
def c77:V:=(.agg [(.int .i64 0),(.int .i64 6),(.str ⟨#[]⟩),.nils,.nils])
def c78:V:=(.vs [(.int .i64 3),(.int .i64 0),(.str ⟨#[69,113]⟩),c67,.nils,(.int .i64 3),(.int .i64 0),(.str ⟨#[78]⟩),.nils,.nils] 2 5 .tight)
def c79:V:=(.vs [(.int .i64 3),(.int .i64 0),(.str ⟨#[115]⟩),.nils,.nils,(.int .i64 0),(.int .i64 2),(.str ⟨#[]⟩),.nils,.nils] 2 5 .tight)
def c80:V:=(.vs [(.int .i64 3),(.int .i64 0),(.str ⟨#[115]⟩),.nils,.nils,(.int .i64 0),(.int .i64 1),(.str ⟨#[]⟩),.nils,.nils] 2 5 .tight)
def c81:V:=(.vs [(.int .i64 4),(.int .i64 0),(.str ⟨#[]⟩),.nils,(.vs [(.int .i64 4),(.int .i64 0),(.str ⟨#[]⟩),.nils,c78,(.int .i64 4),(.int .i64 0),(.str ⟨#[]⟩),.nils,c79] 2 5 .tight),(.int .i64 4),(.int .i64 0),(.str ⟨#[]⟩),.nils,c80] 2 5 .tight)
def c82:V:=(.agg [(.int .i64 4),(.int .i64 0),(.str ⟨#[]⟩),.nils,c81])
def c83:V:=(.agg [(.int .i64 3),(.int .i64 0),(.str ⟨#[69,113]⟩),c67,.nils])
def c84:V:=(.agg [(.int .i64 3),(.int .i64 0),(.str ⟨#[78]⟩),.nils,.nils])
def c85:V:=(.agg [(.int .i64 4),(.int .i64 0),(.str ⟨#[]⟩),.nils,c79])
def c86:V:=(.agg [(.int .i64 3),(.int .i64 0),(.str ⟨#[115]⟩),.nils,.nils])
def c87:V:=(.agg [(.int .i64 4),(.int .i64 0),(.str ⟨#[]⟩),.nils,c80])
def c88:V:=(.vs [(.int .i64 4),(.int .i64 0),(.str ⟨#[]⟩),.nils,c78,(.int .i64 0),(.int .i64 1),(.str ⟨#[]⟩),.nils,.nils] 2 5 .tight)
def c89:V:=(.vs [(.int .i64 4),(.int .i64 0),(.str ⟨#[]⟩),.nils,c88,(.int .i64 0),(.int .i64 0),(.str ⟨#[]⟩),.nils,.nils] 2 5 .tight)
def c90:V:=(.agg [(.int .i64 4),(.int .i64 0),(.str ⟨#[]⟩),.nils,c89])
def c91:V:=(.tup [(.agg [(.int .i64 0),.nils]),(.int .i64 0)])
def c92:V:=(.vs [(.int .i64 0),.nils] 1 2 .lock)
def c93:V:=(.agg [(.int .i64 2),(.int .i64 0),(.str ⟨#[]⟩),c92,.nils])
def c94:V:=(.tup [c93,(.int .i64 0)])
def c95:V:=(.agg [(.int .i64 6),(.int .i64 0),(.str ⟨#[]⟩),.nils,c68])
def c96:V:=(.tup [c95,(.int .i64 0)])
def c97:V:=(.tup [c73,(.int .i64 0)])
def c98:V:=(.tup [c71,(.int .i64 0)])
def c99:V:=(.agg [(.int .i64 4),(.int .i64 0),(.str ⟨#[]⟩),.nils,(.vs [(.int .i64 4),(.int .i64 0),(.str ⟨#[]⟩),.nils,(.vs [(.int .i64 4),(.int .i64 0),(.str ⟨#[]⟩),.nils,(.vs [(.int .i64 3),(.int .i64 0),(.str ⟨#[69,113]⟩),c92,.nils,(.int .i64 3),(.int .i64 0),(.str ⟨#[78]⟩),.nils,.nils] 2 5 .tight),(.int .i64 0),(.int .i64 2),(.str ⟨#[]⟩),.nils,.nils] 2 5 .tight),(.int .i64 0),(.int .i64 1),(.str ⟨#[]⟩),.nils,.nils] 2 5 .tight)])
def ZHS:V:=(.vs [(.int .i64 3),(.int .i64 0),(.str ⟨#[69,113,46,99,111,110,103,114]⟩),(.vs [(.int .i64 0),.nils,(.int .i64 0),.nils] 2 2 .tight),.nils,(.int .i64 3),(.int .i64 0),(.str ⟨#[78]⟩),.nils,.nils] 2 5 .tight)
def ZHT:V:=(.vs [(.int .i64 4),(.int .i64 0),(.str ⟨#[]⟩),.nils,ZHS,(.int .i64 3),(.int .i64 0),(.str ⟨#[78]⟩),.nils,.nils] 2 5 .tight)
def ZHU:V:=(.vs [(.int .i64 4),(.int .i64 0),(.str ⟨#[]⟩),.nils,ZHT,(.int .i64 3),(.int .i64 0),(.str ⟨#[115]⟩),.nils,.nils] 2 5 .tight)
def ZHV:V:=(.vs [(.int .i64 4),(.int .i64 0),(.str ⟨#[]⟩),.nils,ZHU,(.int .i64 3),(.int .i64 0),(.str ⟨#[115]⟩),.nils,.nils] 2 5 .tight)
def ZHW:V:=(.vs [(.int .i64 4),(.int .i64 0),(.str ⟨#[]⟩),.nils,ZHV,(.int .i64 0),(.int .i64 1),(.str ⟨#[]⟩),.nils,.nils] 2 5 .tight)
def c105:V:=(.vs [(.int .i64 4),(.int .i64 0),(.str ⟨#[]⟩),.nils,ZHW,(.int .i64 0),(.int .i64 2),(.str ⟨#[]⟩),.nils,.nils] 2 5 .tight)
def ZHX:V:=(.vs [(.int .i64 4),(.int .i64 0),(.str ⟨#[]⟩),.nils,(.vs [(.int .i64 3),(.int .i64 0),(.str ⟨#[69,113,46,114,101,102,108]⟩),c67,.nils,(.int .i64 6),(.int .i64 0),(.str ⟨#[]⟩),.nils,c68] 2 5 .tight),(.int .i64 3),(.int .i64 0),(.str ⟨#[115]⟩),.nils,.nils] 2 5 .tight)
def c107:V:=(.vs [(.int .i64 3),(.int .i64 0),(.str ⟨#[69,113,46,115,121,109,109]⟩),c67,.nils,(.int .i64 3),(.int .i64 0),(.str ⟨#[78]⟩),.nils,.nils] 2 5 .tight)
def ZHY:V:=(.vs [(.int .i64 4),(.int .i64 0),(.str ⟨#[]⟩),.nils,c107,(.int .i64 0),(.int .i64 2),(.str ⟨#[]⟩),.nils,.nils] 2 5 .tight)
def c109:V:=(.vs [(.int .i64 4),(.int .i64 0),(.str ⟨#[]⟩),.nils,ZHY,(.int .i64 0),(.int .i64 1),(.str ⟨#[]⟩),.nils,.nils] 2 5 .tight)
def ZFt:V:=(.vs [(.int .i64 4),(.int .i64 0),(.str ⟨#[]⟩),.nils,c109,(.int .i64 0),(.int .i64 0),(.str ⟨#[]⟩),.nils,.nils] 2 5 .tight)
def ZHZ:V:=(.vs [(.int .i64 4),(.int .i64 0),(.str ⟨#[]⟩),.nils,(.vs [(.int .i64 4),(.int .i64 0),(.str ⟨#[]⟩),.nils,c105,(.int .i64 4),(.int .i64 0),(.str ⟨#[]⟩),.nils,ZHX] 2 5 .tight),(.int .i64 4),(.int .i64 0),(.str ⟨#[]⟩),.nils,ZFt] 2 5 .tight)
def ZH0:V:=(.agg [(.int .i64 4),(.int .i64 0),(.str ⟨#[]⟩),.nils,ZHZ])
def ZGy:V:=(.agg [(.int .i64 4),(.int .i64 0),(.str ⟨#[]⟩),.nils,ZFt])
def ZH1:V:=(.vs [(.int .i64 4),(.int .i64 0),(.str ⟨#[]⟩),.nils,c107,(.int .i64 4),(.int .i64 0),(.str ⟨#[]⟩),.nils,c80] 2 5 .tight)
def ZFO:V:=(.vs [(.int .i64 4),(.int .i64 0),(.str ⟨#[]⟩),.nils,ZH1,(.int .i64 4),(.int .i64 0),(.str ⟨#[]⟩),.nils,c79] 2 5 .tight)
def c116:V:=(.vs [(.int .i64 4),(.int .i64 0),(.str ⟨#[]⟩),.nils,ZFO,(.int .i64 4),(.int .i64 0),(.str ⟨#[]⟩),.nils,ZHZ] 2 5 .tight)
def c117:V:=(.vs [(.int .i64 4),(.int .i64 0),(.str ⟨#[]⟩),.nils,c89,(.int .i64 4),(.int .i64 0),(.str ⟨#[]⟩),.nils,c116] 2 5 .tight)
def ZH2:V:=(.vs [(.int .i64 3),(.int .i64 0),(.str ⟨#[78]⟩),.nils,.nils,(.int .i64 5),(.int .i64 0),(.str ⟨#[]⟩),.nils,c117] 2 5 .tight)
def c119:V:=(.vs [(.int .i64 3),(.int .i64 0),(.str ⟨#[78]⟩),.nils,.nils,(.int .i64 5),(.int .i64 0),(.str ⟨#[]⟩),.nils,ZH2] 2 5 .tight)
def ZHb:V:=(.agg [(.int .i64 5),(.int .i64 0),(.str ⟨#[]⟩),.nils,c119])
def ZDW:V:=(.vs [(.int .i64 3),(.int .i64 0),(.str ⟨#[78]⟩),.nils,.nils,(.int .i64 3),(.int .i64 0),(.str ⟨#[78]⟩),.nils,.nils,(.int .i64 4),(.int .i64 0),(.str ⟨#[]⟩),.nils,c89] 3 5 .lock)
def ZE9:V:=(.tup [c84,(.int .i64 0)])
def ZH3:V:=(.tup [c70,(.bool false)])
def c124:V:=(.tup [c86,(.int .i64 0)])
def ZH4:V:=(.tup [c87,(.int .i64 0)])
def ZH5:V:=(.tup [c85,(.int .i64 0)])
def c127:V:=(.tup [(.bool false),(.int .i64 0)])
def ZH6:V:=(.agg [(.int .i64 2),(.int .i64 0),(.str ⟨#[]⟩),c1,.nils])
def ZH7:V:=(.agg [(.int .i64 6),(.int .i64 0),(.str ⟨#[]⟩),.nils,c2])
def c130:V:=(.agg [(.int .i64 3),(.int .i64 0),(.str ⟨#[69,113]⟩),c1,.nils])
def c131:V:=(.agg [(.int .i64 2),(.int .i64 0),(.str ⟨#[]⟩),c24,.nils])
def ZH8:V:=(.agg [(.int .i64 6),(.int .i64 0),(.str ⟨#[]⟩),.nils,c25])
def ZH9:V:=(.agg [(.int .i64 6),(.int .i64 0),(.str ⟨#[]⟩),.nils,c26])
def ZIa:V:=(.agg [(.int .i64 3),(.int .i64 0),(.str ⟨#[69,113]⟩),c28,.nils])
def ZIb:V:=(.agg [(.int .i64 6),(.int .i64 0),(.str ⟨#[]⟩),.nils,c29])
def ZIc:V:=(.agg [(.int .i64 3),(.int .i64 0),(.str ⟨#[69,113]⟩),c24,.nils])
def ZId:V:=(.agg [(.int .i64 4),(.int .i64 0),(.str ⟨#[]⟩),.nils,c37])
def c138:V:=(.agg [(.int .i64 4),(.int .i64 0),(.str ⟨#[]⟩),.nils,c39])
def c139:V:=(.fn (.func 130) [] [(.ptr 8 0),(.ptr 3 0),(.ptr 10 0),(.ptr 9 0)])
def ZEA:V:=(.fn (.func 128) [] [(.ptr 6 0),(.ptr 7 0),(.ptr 9 0),(.ptr 3 0)])
def c141:V:=(.vs [(.int .i64 3),(.int .i64 0),(.str ⟨#[78]⟩),.nils,.nils,(.int .i64 6),(.int .i64 0),(.str ⟨#[]⟩),.nils,(.vs [(.int .i64 3),(.int .i64 0),(.str ⟨#[78]⟩),.nils,.nils,(.int .i64 6),(.int .i64 0),(.str ⟨#[]⟩),.nils,(.vs [(.int .i64 4),(.int .i64 0),(.str ⟨#[]⟩),.nils,c89,(.int .i64 4),(.int .i64 0),(.str ⟨#[]⟩),.nils,c81] 2 5 .tight)] 2 5 .tight)] 2 5 .tight)
def ZD9:V:=(.vs [(.int .i64 6),(.int .i64 0),(.str ⟨#[]⟩),.nils,c141,(.bool false),(.int .i64 0),(.int .i64 0),(.str ⟨#[]⟩),.nils,.nils,(.bool false)] 1 12 .tight)
def c143:V:=(.agg [(.int .i64 2),(.int .i64 0),(.str ⟨#[]⟩),c67,.nils])
def ZDI:V:=(.agg [c69])
def c145:V:=(.agg [.nils,ZD9,.nils,.nils,(.int .i64 0),(.vs [(.int .i64 0),(.vs [(.str ⟨#[120]⟩),(.str ⟨#[120]⟩),(.str ⟨#[120]⟩)] 3 1 .lock),(.vs [(.int .i64 3),(.int .i64 0),(.str ⟨#[78]⟩),.nils,.nils,(.int .i64 3),(.int .i64 0),(.str ⟨#[78]⟩),.nils,.nils,(.int .i64 4),(.int .i64 0),(.str ⟨#[]⟩),.nils,c89] 3 5 .tight),(.int .i64 4),(.int .i64 0),(.str ⟨#[]⟩),.nils,c81] 1 8 .tight),(.int .i64 6),(.int .i64 0),(.str ⟨#[]⟩),.nils,c141,(.int .i64 12),(.int .i64 0),(.str ⟨#[]⟩),.nils,.nils])
def c146:V:=(.agg [(.int .i64 6),(.int .i64 0),(.str ⟨#[]⟩),.nils,c3])
def ZIe:V:=(.agg [(.int .i64 4),(.int .i64 0),(.str ⟨#[]⟩),.nils,c6])
def c148:V:=(.agg [(.int .i64 4),(.int .i64 0),(.str ⟨#[]⟩),.nils,c12])
def ZIf:V:=(.agg [(.int .i64 4),(.int .i64 0),(.str ⟨#[]⟩),.nils,c15])
def ZIg:V:=(.agg [(.int .i64 4),(.int .i64 0),(.str ⟨#[]⟩),.nils,c30])
def ZIh:V:=(.agg [(.int .i64 4),(.int .i64 0),(.str ⟨#[]⟩),.nils,c33])
def c152:V:=(.agg [(.int .i64 4),(.int .i64 0),(.str ⟨#[]⟩),.nils,c36])
def ZIi:V:=(.agg [(.int .i64 4),(.int .i64 0),(.str ⟨#[]⟩),.nils,c52])
def c154:V:=(.agg [(.int .i64 4),(.int .i64 0),(.str ⟨#[]⟩),.nils,c55])
def ZHc:V:=(.vs [(.int .i64 3),(.int .i64 0),(.str ⟨#[78]⟩),.nils,.nils,(.int .i64 3),(.int .i64 0),(.str ⟨#[78]⟩),.nils,.nils,(.int .i64 4),(.int .i64 0),(.str ⟨#[]⟩),.nils,c89,(.int .i64 3),(.int .i64 0),(.str ⟨#[78]⟩),.nils,.nils] 4 5 .lock)
def c156:V:=(.agg [(.int .i64 4),(.int .i64 0),(.str ⟨#[]⟩),.nils,c7])
def c157:V:=(.agg [(.int .i64 4),(.int .i64 0),(.str ⟨#[]⟩),.nils,c13])
def ZIj:V:=(.agg [(.int .i64 4),(.int .i64 0),(.str ⟨#[]⟩),.nils,c16])
def c159:V:=(.agg [(.int .i64 4),(.int .i64 0),(.str ⟨#[]⟩),.nils,c31])
def c160:V:=(.agg [(.int .i64 4),(.int .i64 0),(.str ⟨#[]⟩),.nils,c34])
def ZIk:V:=(.agg [(.int .i64 4),(.int .i64 0),(.str ⟨#[]⟩),.nils,c38])
def c162:V:=(.agg [(.int .i64 4),(.int .i64 0),(.str ⟨#[]⟩),.nils,c50])
def ZIl:V:=(.agg [(.int .i64 4),(.int .i64 0),(.str ⟨#[]⟩),.nils,c53])
def c164:V:=(.agg [(.int .i64 4),(.int .i64 0),(.str ⟨#[]⟩),.nils,c56])
def ZIm:V:=(.agg [(.int .i64 4),(.int .i64 0),(.str ⟨#[]⟩),.nils,c8])
def ZIn:V:=(.agg [(.int .i64 4),(.int .i64 0),(.str ⟨#[]⟩),.nils,c14])
def c167:V:=(.agg [(.int .i64 4),(.int .i64 0),(.str ⟨#[]⟩),.nils,c17])
def c168:V:=(.agg [(.int .i64 4),(.int .i64 0),(.str ⟨#[]⟩),.nils,c32])
def ZIo:V:=(.agg [(.int .i64 4),(.int .i64 0),(.str ⟨#[]⟩),.nils,c35])
def ZIp:V:=(.agg [(.int .i64 4),(.int .i64 0),(.str ⟨#[]⟩),.nils,c40])
def c171:V:=(.agg [(.int .i64 4),(.int .i64 0),(.str ⟨#[]⟩),.nils,c51])
def ZIq:V:=(.agg [(.int .i64 4),(.int .i64 0),(.str ⟨#[]⟩),.nils,c54])
def c173:V:=(.agg [(.int .i64 4),(.int .i64 0),(.str ⟨#[]⟩),.nils,c57])
def ZIr:V:=(.agg [(.int .i64 6),(.int .i64 0),(.str ⟨#[]⟩),.nils,c9])
def c175:V:=(.agg [(.int .i64 6),(.int .i64 0),(.str ⟨#[]⟩),.nils,c18])
def ZIs:V:=(.agg [(.int .i64 6),(.int .i64 0),(.str ⟨#[]⟩),.nils,c41])
def ZIt:V:=(.agg [(.int .i64 6),(.int .i64 0),(.str ⟨#[]⟩),.nils,c58])
def ZIu:V:=(.agg [(.int .i64 6),(.int .i64 0),(.str ⟨#[]⟩),.nils,c19])
def ZIv:V:=(.agg [(.int .i64 6),(.int .i64 0),(.str ⟨#[]⟩),.nils,c42])
def ZIw:V:=(.agg [(.int .i64 6),(.int .i64 0),(.str ⟨#[]⟩),.nils,c59])
def ZIx:V:=(.agg [(.int .i64 6),(.int .i64 0),(.str ⟨#[]⟩),.nils,c20])
def c182:V:=(.agg [(.int .i64 6),(.int .i64 0),(.str ⟨#[]⟩),.nils,c43])
def c183:V:=(.agg [(.int .i64 6),(.int .i64 0),(.str ⟨#[]⟩),.nils,c60])
def ZIy:V:=(.agg [(.int .i64 6),(.int .i64 0),(.str ⟨#[]⟩),.nils,c44])
def ZIz:V:=(.agg [(.int .i64 6),(.int .i64 0),(.str ⟨#[]⟩),.nils,c61])
def ZIA:V:=(.agg [(.int .i64 6),(.int .i64 0),(.str ⟨#[]⟩),.nils,c45])
def ZIB:V:=(.agg [(.int .i64 6),(.int .i64 0),(.str ⟨#[]⟩),.nils,c62])
def ZIC:V:=(.agg [(.int .i64 6),(.int .i64 0),(.str ⟨#[]⟩),.nils,c46])
def ZID:V:=(.agg [(.int .i64 6),(.int .i64 0),(.str ⟨#[]⟩),.nils,c47])
def t0:Tab:=[]
def ft0:ZCr:=[]
def l1:Tab:=[]
def t1:Tab:=l1++t0
def fl1:ZCr:=[
 {f:=52,n:=0,args:=[],pre:=[],v:=(.map 3),wr:=[],nw:=ZDS 9 0 [(3,(.map [((.str ⟨#[69,113]⟩),c5),((.str ⟨#[69,113,46,114,101,102,108]⟩),c11),((.str ⟨#[69,113,46,115,121,109,109]⟩),c22),((.str ⟨#[69,113,46,99,111,110,103,114]⟩),c49),((.str ⟨#[69,113,46,116,114,97,110,115]⟩),c64)] 5))]}
]
def ft1:ZCr:=fl1++ft0
def l2:Tab:=[
 (21,[(.int .i64 2),c65,c66],(.int .i64 0)),
 (24,[(.vs [(.int .i64 2),(.int .i64 3),(.int .i64 0),(.int .i64 4)] 4 1 .lock)],(.int .i64 0)),
 (44,[(.str ⟨#[69,113,46,116,114,97,110,115]⟩)],(.tup [c64,(.int .i64 1)])),
 (44,[(.str ⟨#[69,113,46,99,111,110,103,114]⟩)],(.tup [c49,(.int .i64 2)])),
 (53,[c69,(.str ⟨#[69,113]⟩)],(.tup [(.agg [(.int .i64 0),(.int .i64 0),(.int .i64 0),(.int .i64 1),(.int .i64 6),(.int .i64 0),(.str ⟨#[]⟩),.nils,c4]),(.int .i64 0)])),
 (109,[c0,c0],(.bool true)),
 (54,[c70,c70],(.bool true)),
 (54,[c71,c71],(.bool true)),
 (54,[c72,c72],(.bool true)),
 (53,[c69,(.str ⟨#[69,113,46,114,101,102,108]⟩)],(.tup [(.agg [(.int .i64 0),(.int .i64 1),(.int .i64 0),(.int .i64 1),(.int .i64 6),(.int .i64 0),(.str ⟨#[]⟩),.nils,c10]),(.int .i64 0)])),
 (53,[c69,(.str ⟨#[69,113,46,115,121,109,109]⟩)],(.tup [(.agg [(.int .i64 0),(.int .i64 2),(.int .i64 0),(.int .i64 1),(.int .i64 6),(.int .i64 0),(.str ⟨#[]⟩),.nils,c21]),(.int .i64 0)])),
 (54,[c73,c73],(.bool true)),
 (54,[c74,c74],(.bool true)),
 (53,[c69,(.str ⟨#[69,113,46,99,111,110,103,114]⟩)],(.tup [(.agg [(.int .i64 0),(.int .i64 4),(.int .i64 0),(.int .i64 2),(.int .i64 6),(.int .i64 0),(.str ⟨#[]⟩),.nils,c48]),(.int .i64 0)])),
 (109,[c23,c23],(.bool true)),
 (54,[c75,c75],(.bool true)),
 (109,[c27,c27],(.bool true)),
 (54,[c76,c76],(.bool true)),
 (54,[c77,c77],(.bool true)),
 (53,[c69,(.str ⟨#[69,113,46,116,114,97,110,115]⟩)],(.tup [(.agg [(.int .i64 0),(.int .i64 3),(.int .i64 0),(.int .i64 1),(.int .i64 6),(.int .i64 0),(.str ⟨#[]⟩),.nils,c63]),(.int .i64 0)])),
 (57,[c82],(.tup [c83,(.vs [(.int .i64 3),(.int .i64 0),(.str ⟨#[78]⟩),.nils,.nils,(.int .i64 4),(.int .i64 0),(.str ⟨#[]⟩),.nils,c79,(.int .i64 4),(.int .i64 0),(.str ⟨#[]⟩),.nils,c80] 3 5 .lock)])),
 (68,[c84],(.int .i64 1)),
 (57,[c85],(.tup [c86,(.vs [(.int .i64 0),(.int .i64 2),(.str ⟨#[]⟩),.nils,.nils] 1 5 .lock)])),
 (68,[c73],(.int .i64 1)),
 (68,[c85],(.int .i64 3)),
 (182,[c85],(.int .i64 2)),
 (57,[c87],(.tup [c86,(.vs [(.int .i64 0),(.int .i64 1),(.str ⟨#[]⟩),.nils,.nils] 1 5 .lock)])),
 (68,[c71],(.int .i64 1)),
 (68,[c87],(.int .i64 3)),
 (182,[c87],(.int .i64 2)),
 (68,[c82],(.int .i64 11)),
 (182,[(.agg [(.int .i64 4),(.int .i64 0),(.str ⟨#[]⟩),.nils,c78])],(.int .i64 2)),
 (56,[c82],.nils),
 (56,[c84],.nils)
]
def t2:Tab:=l2++t1
def ft2:ZCr:=ft1
def l3:Tab:=[
 (57,[c90],(.tup [c83,(.vs [(.int .i64 3),(.int .i64 0),(.str ⟨#[78]⟩),.nils,.nils,(.int .i64 0),(.int .i64 1),(.str ⟨#[]⟩),.nils,.nils,(.int .i64 0),(.int .i64 0),(.str ⟨#[]⟩),.nils,.nils] 3 5 .lock)])),
 (68,[c70],(.int .i64 1)),
 (68,[c90],(.int .i64 7)),
 (56,[c90],.nils),
 (53,[c69,(.str ⟨#[78]⟩)],(.tup [(.agg [(.int .i64 0),(.int .i64 5),(.int .i64 0),(.int .i64 0),(.int .i64 2),(.int .i64 0),(.str ⟨#[]⟩),c67,.nils]),(.int .i64 0)])),
 (240,[(.agg [(.int .i64 0),.nils])],(.int .i64 0)),
 (157,[.nils],(.tup [])),
 (255,[(.agg [(.int .i64 0),.nils])],c91),
 (104,[c69,c93],c94),
 (118,[c93,(.int .i64 0),(.int .i64 0)],c93),
 (61,[(.agg [(.int .i64 0),.nils]),(.agg [(.int .i64 0),.nils])],(.bool true)),
 (53,[c69,(.str ⟨#[115]⟩)],(.tup [(.agg [(.int .i64 0),(.int .i64 6),(.int .i64 0),(.int .i64 0),(.int .i64 6),(.int .i64 0),(.str ⟨#[]⟩),.nils,c68]),(.int .i64 0)])),
 (176,[c95,.nils],c96),
 (104,[c69,c95],c96),
 (118,[c84,(.int .i64 3),(.int .i64 0)],c84),
 (54,[c84,c84],(.bool true)),
 (118,[c84,(.int .i64 0),(.int .i64 0)],c84),
 (118,[c84,(.int .i64 2),(.int .i64 0)],c84),
 (118,[c95,(.int .i64 0),(.int .i64 0)],c95),
 (112,[c84,(.int .i64 0)],(.bool false)),
 (104,[c69,c73],c97),
 (66,[c69,c73],c97),
 (207,[c87],c87),
 (54,[c86,c86],(.bool true)),
 (104,[c69,c71],c98),
 (207,[c85],c85),
 (66,[c69,c71],c98),
 (118,[c90,(.int .i64 1),(.int .i64 0)],c99),
 (57,[c99],(.tup [(.agg [(.int .i64 3),(.int .i64 0),(.str ⟨#[69,113]⟩),c92,.nils]),(.vs [(.int .i64 3),(.int .i64 0),(.str ⟨#[78]⟩),.nils,.nils,(.int .i64 0),(.int .i64 2),(.str ⟨#[]⟩),.nils,.nils,(.int .i64 0),(.int .i64 1),(.str ⟨#[]⟩),.nils,.nils] 3 5 .lock)]))
]
def t3:Tab:=l3++t2
def ft3:ZCr:=ft2
def l4:Tab:=[
 (68,[ZH0],(.int .i64 31)),
 (68,[c86],(.int .i64 1)),
 (68,[ZGy],(.int .i64 9)),
 (182,[(.agg [(.int .i64 4),(.int .i64 0),(.str ⟨#[]⟩),.nils,c107])],(.int .i64 2)),
 (182,[(.agg [(.int .i64 4),(.int .i64 0),(.str ⟨#[]⟩),.nils,ZHS])],(.int .i64 2))
]
def t4:Tab:=l4++t3
def ft4:ZCr:=ft3
def l5:Tab:=[
 (56,[ZHb],.nils)
]
def t5:Tab:=l5++t4
def ft5:ZCr:=ft4
def l6:Tab:=[
 (9,[(.int .i64 2),c65,c66],(.tup [(.vs [(.int .i64 0),(.int .i64 1),(.int .i64 0),(.int .i64 0),(.int .i64 0)] 5 1 .tight),(.int .i64 0)])),
 (96,[c1,c1,(.fn (.func 97) [] [])],(.bool true)),
 (98,[c2,c2,(.fn (.func 54) [] [])],(.bool true)),
 (96,[c24,c24,(.fn (.func 97) [] [])],(.bool true)),
 (98,[c25,c25,(.fn (.func 54) [] [])],(.bool true)),
 (98,[c26,c26,(.fn (.func 54) [] [])],(.bool true)),
 (96,[c28,c28,(.fn (.func 97) [] [])],(.bool true)),
 (98,[c29,c29,(.fn (.func 54) [] [])],(.bool true)),
 (98,[c37,c37,(.fn (.func 54) [] [])],(.bool true)),
 (98,[c39,c39,(.fn (.func 54) [] [])],(.bool true)),
 (164,[c84],(.bool false)),
 (164,[c73],(.bool false)),
 (131,[c85,(.int .i64 0)],c85),
 (164,[c71],(.bool false)),
 (131,[c87,(.int .i64 0)],c87),
 (164,[c70],(.bool false)),
 (182,[(.agg [(.int .i64 4),(.int .i64 0),(.str ⟨#[]⟩),.nils,c88])],(.int .i64 3)),
 (210,[(.agg [(.int .i64 0),.nils]),.nils],c91),
 (107,[c93],c93),
 (228,[c69,(.str ⟨#[115]⟩),.nils],c96),
 (39,[ZDW,(.int .i64 2)],ZE9),
 (165,[c84,(.vs [(.int .i64 0),(.int .i64 2),(.str ⟨#[]⟩),.nils,.nils] 1 5 .tight),(.int .i64 0)],ZE9),
 (107,[c84],c84),
 (39,[ZDW,(.int .i64 1)],ZE9),
 (165,[c84,(.vs [(.int .i64 0),(.int .i64 1),(.str ⟨#[]⟩),.nils,.nils] 1 5 .tight),(.int .i64 0)],ZE9),
 (150,[c69,(.str ⟨#[115]⟩),.nils],ZH3),
 (107,[c95],c95),
 (150,[c69,(.str ⟨#[78]⟩),.nils],ZH3),
 (104,[c69,c86],c124),
 (104,[c69,c87],ZH4),
 (98,[c79,c80,(.fn (.func 54) [] [])],(.bool false)),
 (104,[c69,c85],ZH5),
 (111,[c69,c73,c71],c127),
 (104,[c69,c84],ZE9)
]
def t6:Tab:=l6++t5
def ft6:ZCr:=ft5
def l7:Tab:=[
 (121,[ZHb],.nils),
 (164,[c86],(.bool false)),
 (182,[(.agg [(.int .i64 4),(.int .i64 0),(.str ⟨#[]⟩),.nils,ZHY])],(.int .i64 3)),
 (182,[(.agg [(.int .i64 4),(.int .i64 0),(.str ⟨#[]⟩),.nils,ZHT])],(.int .i64 3)),
 (182,[(.agg [(.int .i64 4),(.int .i64 0),(.str ⟨#[]⟩),.nils,ZH1])],(.int .i64 3))
]
def t7:Tab:=l7++t6
def ft7:ZCr:=ft6
def l8:Tab:=[
 (54,[ZH6,ZH6],(.bool true)),
 (54,[ZH7,ZH7],(.bool true)),
 (54,[c130,c130],(.bool true)),
 (54,[c131,c131],(.bool true)),
 (54,[ZH8,ZH8],(.bool true)),
 (54,[ZH9,ZH9],(.bool true)),
 (54,[ZIa,ZIa],(.bool true)),
 (54,[ZIb,ZIb],(.bool true)),
 (54,[ZIc,ZIc],(.bool true)),
 (54,[ZId,ZId],(.bool true)),
 (54,[c138,c138],(.bool true)),
 (55,[ZD9,c84],ZE9),
 (182,[c90],(.int .i64 4)),
 (176,[c143,.nils],c94),
 (196,[ZDI,ZDW,c86],c95),
 (140,[ZDI,ZDW,c73],c84),
 (230,[c84,c73],c84),
 (140,[ZDI,ZDW,c71],c84),
 (230,[c84,c71],c84),
 (66,[c69,c85],ZH5),
 (66,[c69,c84],ZE9),
 (66,[c69,c86],c124),
 (66,[c69,c87],ZH4),
 (54,[c85,c87],(.bool false)),
 (182,[(.agg [(.int .i64 4),(.int .i64 0),(.str ⟨#[]⟩),.nils,c109])],(.int .i64 4)),
 (182,[(.agg [(.int .i64 4),(.int .i64 0),(.str ⟨#[]⟩),.nils,ZHU])],(.int .i64 4)),
 (182,[(.agg [(.int .i64 4),(.int .i64 0),(.str ⟨#[]⟩),.nils,ZFO])],(.int .i64 4))
]
def t8:Tab:=l8++t7
def fl8:ZCr:=[
 {f:=130,n:=11,args:=[c82,(.ptr 8 0),(.ptr 3 0),(.ptr 10 0),(.ptr 9 0)],pre:=[(9,(.row 0 [c139])),(5,(.map [] 0)),(7,(.row 0 [(.map 5)])),(4,(.map [] 0)),(6,(.row 0 [(.map 4)])),(10,(.row 0 [ZEA])),(3,(.row 0 [ZD9])),(8,(.row 0 [(.int .i64 0)]))],v:=c82,wr:=[(8,(.row 0 [(.int .i64 6)]))],nw:=ZDS 46 0 []},
 {f:=130,n:=165,args:=[c95,(.ptr 8 0),(.ptr 3 0),(.ptr 10 0),(.ptr 9 0)],pre:=[(9,(.row 0 [c139])),(5,(.map [] 0)),(7,(.row 0 [(.map 5)])),(4,(.map [] 0)),(6,(.row 0 [(.map 4)])),(10,(.row 0 [ZEA])),(3,(.row 0 [ZD9])),(8,(.row 0 [(.int .i64 23)]))],v:=(.agg [(.int .i64 6),(.int .i64 0),(.str ⟨#[]⟩),.nils,(.hs 168 0 2 2 5 true)]),wr:=[(8,(.row 0 [(.int .i64 26)]))],nw:=ZDS 40 0 [(3,(.row 0 [(.int .i64 3),(.int .i64 0),(.str ⟨#[78]⟩),.nils,.nils,(.int .i64 3),(.int .i64 0),(.str ⟨#[78]⟩),.nils,.nils]))]}
]
def ft8:ZCr:=fl8++ft7
def l9:Tab:=[
 (98,[c3,c3,(.fn (.func 54) [] [])],(.bool true)),
 (98,[c6,c6,(.fn (.func 54) [] [])],(.bool true)),
 (98,[c12,c12,(.fn (.func 54) [] [])],(.bool true)),
 (98,[c15,c15,(.fn (.func 54) [] [])],(.bool true)),
 (98,[c30,c30,(.fn (.func 54) [] [])],(.bool true)),
 (98,[c33,c33,(.fn (.func 54) [] [])],(.bool true)),
 (98,[c36,c36,(.fn (.func 54) [] [])],(.bool true)),
 (98,[c52,c52,(.fn (.func 54) [] [])],(.bool true)),
 (98,[c55,c55,(.fn (.func 54) [] [])],(.bool true)),
 (34,[c145,c84],ZE9),
 (131,[c90,(.int .i64 0)],c90),
 (228,[c69,(.str ⟨#[78]⟩),.nils],c94),
 (140,[ZDI,ZDW,c86],c95),
 (111,[c69,c86,c73],c127),
 (111,[c69,c86,c87],c127),
 (111,[c69,c73,c87],c127),
 (111,[c69,c85,c87],c127),
 (111,[c69,c86,c71],c127),
 (111,[c69,c85,c71],c127)
]
def t9:Tab:=l9++t8
def ft9:ZCr:=ft8
def l10:Tab:=[
 (182,[ZGy],(.int .i64 5)),
 (182,[(.agg [(.int .i64 4),(.int .i64 0),(.str ⟨#[]⟩),.nils,ZHV])],(.int .i64 5))
]
def t10:Tab:=l10++t9
def ZIH:ZCr:=[
 {f:=130,n:=160,args:=[(.agg [(.int .i64 4),(.int .i64 0),(.str ⟨#[]⟩),.nils,ZHX]),(.ptr 8 0),(.ptr 3 0),(.ptr 10 0),(.ptr 9 0)],pre:=[(9,(.row 0 [c139])),(5,(.map [] 0)),(7,(.row 0 [(.map 5)])),(4,(.map [] 0)),(6,(.row 0 [(.map 4)])),(10,(.row 0 [ZEA])),(3,(.row 0 [ZD9])),(8,(.row 0 [(.int .i64 22)]))],v:=(.agg [(.int .i64 4),(.int .i64 0),(.str ⟨#[]⟩),.nils,(.hs 217 0 2 2 5 true)]),wr:=[(8,(.row 0 [(.int .i64 27)]))],nw:=ZDS 91 0 [(8,(.row 0 [(.int .i64 3),(.int .i64 0),(.str ⟨#[78]⟩),.nils,.nils,(.int .i64 3),(.int .i64 0),(.str ⟨#[78]⟩),.nils,.nils])),(55,(.row 0 [(.int .i64 3),(.int .i64 0),(.str ⟨#[69,113,46,114,101,102,108]⟩),c67,.nils,(.int .i64 6),(.int .i64 0),(.str ⟨#[]⟩),.nils,(.hs 168 0 2 2 5 true)])),(57,(.row 0 [(.int .i64 4),(.int .i64 0),(.str ⟨#[]⟩),.nils,(.hs 215 0 2 2 5 true),(.int .i64 3),(.int .i64 0),(.str ⟨#[115]⟩),.nils,.nils]))]}
]
def ZGz:ZCr:=ZIH++ft9
def l11:Tab:=[
 (54,[c146,c146],(.bool true)),
 (54,[ZIe,ZIe],(.bool true)),
 (54,[c148,c148],(.bool true)),
 (54,[ZIf,ZIf],(.bool true)),
 (54,[ZIg,ZIg],(.bool true)),
 (54,[ZIh,ZIh],(.bool true)),
 (54,[c152,c152],(.bool true)),
 (54,[ZIi,ZIi],(.bool true)),
 (54,[c154,c154],(.bool true)),
 (196,[ZDI,ZDW,c84],c93),
 (197,[ZDI,ZDW,c85],c84),
 (197,[ZDI,ZDW,c87],c84),
 (196,[ZDI,ZHc,c84],c93),
 (182,[(.agg [(.int .i64 4),(.int .i64 0),(.str ⟨#[]⟩),.nils,ZHW])],(.int .i64 6))
]
def t11:Tab:=l11++t10
def ZII:ZCr:=[
 {f:=130,n:=11,args:=[c90,(.ptr 8 0),(.ptr 3 0),(.ptr 10 0),(.ptr 9 0)],pre:=[(9,(.row 0 [c139])),(5,(.map [] 0)),(7,(.row 0 [(.map 5)])),(4,(.map [] 0)),(6,(.row 0 [(.map 4)])),(10,(.row 0 [ZEA])),(3,(.row 0 [ZD9])),(8,(.row 0 [(.int .i64 0)]))],v:=c90,wr:=[(8,(.row 0 [(.int .i64 4)]))],nw:=ZDS 30 0 []},
 {f:=130,n:=40,args:=[c90,(.ptr 8 0),(.ptr 3 0),(.ptr 10 0),(.ptr 9 0)],pre:=[(9,(.row 0 [c139])),(5,(.map [] 0)),(7,(.row 0 [(.map 5)])),(4,(.map [] 0)),(6,(.row 0 [(.map 4)])),(10,(.row 0 [ZEA])),(3,(.row 0 [ZD9])),(8,(.row 0 [(.int .i64 5)]))],v:=c90,wr:=[(8,(.row 0 [(.int .i64 9)]))],nw:=ZDS 30 0 []},
 {f:=130,n:=252,args:=[ZGy,(.ptr 8 0),(.ptr 3 0),(.ptr 10 0),(.ptr 9 0)],pre:=[(9,(.row 0 [c139])),(5,(.map [] 0)),(7,(.row 0 [(.map 5)])),(4,(.map [] 0)),(6,(.row 0 [(.map 4)])),(10,(.row 0 [ZEA])),(3,(.row 0 [ZD9])),(8,(.row 0 [(.int .i64 27)]))],v:=ZGy,wr:=[(8,(.row 0 [(.int .i64 32)]))],nw:=ZDS 38 0 []}
]
def ZHf:ZCr:=ZII++ZGz
def l12:Tab:=[
 (98,[c4,c4,(.fn (.func 54) [] [])],(.bool true)),
 (98,[c7,c7,(.fn (.func 54) [] [])],(.bool true)),
 (98,[c13,c13,(.fn (.func 54) [] [])],(.bool true)),
 (98,[c16,c16,(.fn (.func 54) [] [])],(.bool true)),
 (98,[c31,c31,(.fn (.func 54) [] [])],(.bool true)),
 (98,[c34,c34,(.fn (.func 54) [] [])],(.bool true)),
 (98,[c38,c38,(.fn (.func 54) [] [])],(.bool true)),
 (98,[c50,c50,(.fn (.func 54) [] [])],(.bool true)),
 (98,[c53,c53,(.fn (.func 54) [] [])],(.bool true)),
 (98,[c56,c56,(.fn (.func 54) [] [])],(.bool true)),
 (140,[ZDI,ZDW,c84],c93),
 (140,[ZDI,ZDW,c85],c84),
 (140,[ZDI,ZDW,c87],c84),
 (140,[ZDI,ZHc,c84],c93),
 (182,[(.agg [(.int .i64 4),(.int .i64 0),(.str ⟨#[]⟩),.nils,c105])],(.int .i64 7))
]
def t12:Tab:=l12++t11
def ZGA:ZCr:=ZHf
def l13:Tab:=[
 (54,[c5,c5],(.bool true)),
 (54,[c156,c156],(.bool true)),
 (54,[c157,c157],(.bool true)),
 (54,[ZIj,ZIj],(.bool true)),
 (54,[c159,c159],(.bool true)),
 (54,[c160,c160],(.bool true)),
 (54,[ZIk,ZIk],(.bool true)),
 (54,[c162,c162],(.bool true)),
 (54,[ZIl,ZIl],(.bool true)),
 (54,[c164,c164],(.bool true)),
 (108,[ZDI,ZDW,c84],c93),
 (108,[ZDI,ZHc,c84],c93)
]
def t13:Tab:=l13++t12
def ZIJ:ZCr:=[
 {f:=130,n:=113,args:=[ZH0,(.ptr 8 0),(.ptr 3 0),(.ptr 10 0),(.ptr 9 0)],pre:=[(9,(.row 0 [c139])),(5,(.map [] 0)),(7,(.row 0 [(.map 5)])),(4,(.map [] 0)),(6,(.row 0 [(.map 4)])),(10,(.row 0 [ZEA])),(3,(.row 0 [ZD9])),(8,(.row 0 [(.int .i64 15)]))],v:=(.agg [(.int .i64 4),(.int .i64 0),(.str ⟨#[]⟩),.nils,(.hs 301 0 2 2 5 true)]),wr:=[(8,(.row 0 [(.int .i64 32)]))],nw:=ZDS 276 0 [(55,(.row 0 [(.int .i64 3),(.int .i64 0),(.str ⟨#[78]⟩),.nils,.nils,(.int .i64 3),(.int .i64 0),(.str ⟨#[78]⟩),.nils,.nils])),(102,(.row 0 [(.int .i64 3),(.int .i64 0),(.str ⟨#[69,113,46,114,101,102,108]⟩),c67,.nils,(.int .i64 6),(.int .i64 0),(.str ⟨#[]⟩),.nils,(.hs 168 0 2 2 5 true)])),(104,(.row 0 [(.int .i64 4),(.int .i64 0),(.str ⟨#[]⟩),.nils,(.hs 215 0 2 2 5 true),(.int .i64 3),(.int .i64 0),(.str ⟨#[115]⟩),.nils,.nils])),(186,(.row 0 [(.int .i64 4),(.int .i64 0),(.str ⟨#[]⟩),.nils,c105,(.int .i64 4),(.int .i64 0),(.str ⟨#[]⟩),.nils,(.hs 217 0 2 2 5 true)])),(188,(.row 0 [(.int .i64 4),(.int .i64 0),(.str ⟨#[]⟩),.nils,(.hs 299 0 2 2 5 true),(.int .i64 4),(.int .i64 0),(.str ⟨#[]⟩),.nils,ZFt]))]}
]
def ZGB:ZCr:=ZIJ++ZGA
def l14:Tab:=[
 (98,[c8,c8,(.fn (.func 54) [] [])],(.bool true)),
 (98,[c14,c14,(.fn (.func 54) [] [])],(.bool true)),
 (98,[c17,c17,(.fn (.func 54) [] [])],(.bool true)),
 (98,[c32,c32,(.fn (.func 54) [] [])],(.bool true)),
 (98,[c35,c35,(.fn (.func 54) [] [])],(.bool true)),
 (98,[c40,c40,(.fn (.func 54) [] [])],(.bool true)),
 (98,[c51,c51,(.fn (.func 54) [] [])],(.bool true)),
 (98,[c54,c54,(.fn (.func 54) [] [])],(.bool true)),
 (98,[c57,c57,(.fn (.func 54) [] [])],(.bool true)),
 (108,[ZDI,ZDW,c95],c143)
]
def t14:Tab:=l14++t13
def ZIK:ZCr:=[
 {f:=130,n:=71,args:=[(.agg [(.int .i64 4),(.int .i64 0),(.str ⟨#[]⟩),.nils,c116]),(.ptr 8 0),(.ptr 3 0),(.ptr 10 0),(.ptr 9 0)],pre:=[(9,(.row 0 [c139])),(5,(.map [] 0)),(7,(.row 0 [(.map 5)])),(4,(.map [] 0)),(6,(.row 0 [(.map 4)])),(10,(.row 0 [ZEA])),(3,(.row 0 [ZD9])),(8,(.row 0 [(.int .i64 9)]))],v:=(.agg [(.int .i64 4),(.int .i64 0),(.str ⟨#[]⟩),.nils,(.hs 395 0 2 2 5 true)]),wr:=[(8,(.row 0 [(.int .i64 32)]))],nw:=ZDS 439 0 [(97,(.row 0 [(.int .i64 3),(.int .i64 0),(.str ⟨#[78]⟩),.nils,.nils,(.int .i64 3),(.int .i64 0),(.str ⟨#[78]⟩),.nils,.nils])),(144,(.row 0 [(.int .i64 3),(.int .i64 0),(.str ⟨#[69,113,46,114,101,102,108]⟩),c67,.nils,(.int .i64 6),(.int .i64 0),(.str ⟨#[]⟩),.nils,(.hs 168 0 2 2 5 true)])),(146,(.row 0 [(.int .i64 4),(.int .i64 0),(.str ⟨#[]⟩),.nils,(.hs 215 0 2 2 5 true),(.int .i64 3),(.int .i64 0),(.str ⟨#[115]⟩),.nils,.nils])),(228,(.row 0 [(.int .i64 4),(.int .i64 0),(.str ⟨#[]⟩),.nils,c105,(.int .i64 4),(.int .i64 0),(.str ⟨#[]⟩),.nils,(.hs 217 0 2 2 5 true)])),(230,(.row 0 [(.int .i64 4),(.int .i64 0),(.str ⟨#[]⟩),.nils,(.hs 299 0 2 2 5 true),(.int .i64 4),(.int .i64 0),(.str ⟨#[]⟩),.nils,ZFt])),(324,(.row 0 [(.int .i64 4),(.int .i64 0),(.str ⟨#[]⟩),.nils,ZFO,(.int .i64 4),(.int .i64 0),(.str ⟨#[]⟩),.nils,(.hs 301 0 2 2 5 true)]))]}
]
def ZGC:ZCr:=ZIK++ZGB
def l15:Tab:=[
 (54,[ZIm,ZIm],(.bool true)),
 (54,[ZIn,ZIn],(.bool true)),
 (54,[c167,c167],(.bool true)),
 (54,[c168,c168],(.bool true)),
 (54,[ZIo,ZIo],(.bool true)),
 (54,[ZIp,ZIp],(.bool true)),
 (54,[c171,c171],(.bool true)),
 (54,[ZIq,ZIq],(.bool true)),
 (54,[c173,c173],(.bool true))
]
def t15:Tab:=l15++t14
def ZIL:ZCr:=[
 {f:=130,n:=35,args:=[(.agg [(.int .i64 5),(.int .i64 0),(.str ⟨#[]⟩),.nils,c117]),(.ptr 8 0),(.ptr 3 0),(.ptr 10 0),(.ptr 9 0)],pre:=[(9,(.row 0 [c139])),(5,(.map [] 0)),(7,(.row 0 [(.map 5)])),(4,(.map [] 0)),(6,(.row 0 [(.map 4)])),(10,(.row 0 [ZEA])),(3,(.row 0 [ZD9])),(8,(.row 0 [(.int .i64 4)]))],v:=(.agg [(.int .i64 5),(.int .i64 0),(.str ⟨#[]⟩),.nils,(.hs 38 0 2 2 5 true)]),wr:=[(8,(.row 0 [(.int .i64 32)]))],nw:=ZDS 611 0 [(3,(.row 0 [(.int .i64 4),(.int .i64 0),(.str ⟨#[]⟩),.nils,c89,(.int .i64 4),(.int .i64 0),(.str ⟨#[]⟩),.nils,(.hs 395 0 2 2 5 true)])),(133,(.row 0 [(.int .i64 3),(.int .i64 0),(.str ⟨#[78]⟩),.nils,.nils,(.int .i64 3),(.int .i64 0),(.str ⟨#[78]⟩),.nils,.nils])),(180,(.row 0 [(.int .i64 3),(.int .i64 0),(.str ⟨#[69,113,46,114,101,102,108]⟩),c67,.nils,(.int .i64 6),(.int .i64 0),(.str ⟨#[]⟩),.nils,(.hs 168 0 2 2 5 true)])),(182,(.row 0 [(.int .i64 4),(.int .i64 0),(.str ⟨#[]⟩),.nils,(.hs 215 0 2 2 5 true),(.int .i64 3),(.int .i64 0),(.str ⟨#[115]⟩),.nils,.nils])),(264,(.row 0 [(.int .i64 4),(.int .i64 0),(.str ⟨#[]⟩),.nils,c105,(.int .i64 4),(.int .i64 0),(.str ⟨#[]⟩),.nils,(.hs 217 0 2 2 5 true)])),(266,(.row 0 [(.int .i64 4),(.int .i64 0),(.str ⟨#[]⟩),.nils,(.hs 299 0 2 2 5 true),(.int .i64 4),(.int .i64 0),(.str ⟨#[]⟩),.nils,ZFt])),(360,(.row 0 [(.int .i64 4),(.int .i64 0),(.str ⟨#[]⟩),.nils,ZFO,(.int .i64 4),(.int .i64 0),(.str ⟨#[]⟩),.nils,(.hs 301 0 2 2 5 true)]))]}
]
def ZGD:ZCr:=ZIL++ZGC
def l16:Tab:=[
 (98,[c9,c9,(.fn (.func 54) [] [])],(.bool true)),
 (98,[c18,c18,(.fn (.func 54) [] [])],(.bool true)),
 (98,[c41,c41,(.fn (.func 54) [] [])],(.bool true)),
 (98,[c58,c58,(.fn (.func 54) [] [])],(.bool true))
]
def t16:Tab:=l16++t15
def ZIM:ZCr:=[
 {f:=130,n:=23,args:=[(.agg [(.int .i64 5),(.int .i64 0),(.str ⟨#[]⟩),.nils,ZH2]),(.ptr 8 0),(.ptr 3 0),(.ptr 10 0),(.ptr 9 0)],pre:=[(9,(.row 0 [c139])),(5,(.map [] 0)),(7,(.row 0 [(.map 5)])),(4,(.map [] 0)),(6,(.row 0 [(.map 4)])),(10,(.row 0 [ZEA])),(3,(.row 0 [ZD9])),(8,(.row 0 [(.int .i64 2)]))],v:=(.agg [(.int .i64 5),(.int .i64 0),(.str ⟨#[]⟩),.nils,(.hs 26 0 2 2 5 true)]),wr:=[(8,(.row 0 [(.int .i64 32)]))],nw:=ZDS 766 0 [(3,(.row 0 [(.int .i64 3),(.int .i64 0),(.str ⟨#[78]⟩),.nils,.nils,(.int .i64 5),(.int .i64 0),(.str ⟨#[]⟩),.nils,(.hs 38 0 2 2 5 true)])),(15,(.row 0 [(.int .i64 4),(.int .i64 0),(.str ⟨#[]⟩),.nils,c89,(.int .i64 4),(.int .i64 0),(.str ⟨#[]⟩),.nils,(.hs 395 0 2 2 5 true)])),(145,(.row 0 [(.int .i64 3),(.int .i64 0),(.str ⟨#[78]⟩),.nils,.nils,(.int .i64 3),(.int .i64 0),(.str ⟨#[78]⟩),.nils,.nils])),(192,(.row 0 [(.int .i64 3),(.int .i64 0),(.str ⟨#[69,113,46,114,101,102,108]⟩),c67,.nils,(.int .i64 6),(.int .i64 0),(.str ⟨#[]⟩),.nils,(.hs 168 0 2 2 5 true)])),(194,(.row 0 [(.int .i64 4),(.int .i64 0),(.str ⟨#[]⟩),.nils,(.hs 215 0 2 2 5 true),(.int .i64 3),(.int .i64 0),(.str ⟨#[115]⟩),.nils,.nils])),(276,(.row 0 [(.int .i64 4),(.int .i64 0),(.str ⟨#[]⟩),.nils,c105,(.int .i64 4),(.int .i64 0),(.str ⟨#[]⟩),.nils,(.hs 217 0 2 2 5 true)])),(278,(.row 0 [(.int .i64 4),(.int .i64 0),(.str ⟨#[]⟩),.nils,(.hs 299 0 2 2 5 true),(.int .i64 4),(.int .i64 0),(.str ⟨#[]⟩),.nils,ZFt])),(372,(.row 0 [(.int .i64 4),(.int .i64 0),(.str ⟨#[]⟩),.nils,ZFO,(.int .i64 4),(.int .i64 0),(.str ⟨#[]⟩),.nils,(.hs 301 0 2 2 5 true)]))]}
]
def ZGE:ZCr:=ZIM++ZGD
def l17:Tab:=[
 (54,[ZIr,ZIr],(.bool true)),
 (54,[c175,c175],(.bool true)),
 (54,[ZIs,ZIs],(.bool true)),
 (54,[ZIt,ZIt],(.bool true))
]
def t17:Tab:=l17++t16
def ZIN:ZCr:=[
 {f:=130,n:=11,args:=[ZHb,(.ptr 8 0),(.ptr 3 0),(.ptr 10 0),(.ptr 9 0)],pre:=[(9,(.row 0 [c139])),(5,(.map [] 0)),(7,(.row 0 [(.map 5)])),(4,(.map [] 0)),(6,(.row 0 [(.map 4)])),(10,(.row 0 [ZEA])),(3,(.row 0 [ZD9])),(8,(.row 0 [(.int .i64 0)]))],v:=(.agg [(.int .i64 5),(.int .i64 0),(.str ⟨#[]⟩),.nils,(.hs 14 0 2 2 5 true)]),wr:=[(8,(.row 0 [(.int .i64 32)]))],nw:=ZDS 928 0 [(3,(.row 0 [(.int .i64 3),(.int .i64 0),(.str ⟨#[78]⟩),.nils,.nils,(.int .i64 5),(.int .i64 0),(.str ⟨#[]⟩),.nils,(.hs 26 0 2 2 5 true)])),(15,(.row 0 [(.int .i64 3),(.int .i64 0),(.str ⟨#[78]⟩),.nils,.nils,(.int .i64 5),(.int .i64 0),(.str ⟨#[]⟩),.nils,(.hs 38 0 2 2 5 true)])),(27,(.row 0 [(.int .i64 4),(.int .i64 0),(.str ⟨#[]⟩),.nils,c89,(.int .i64 4),(.int .i64 0),(.str ⟨#[]⟩),.nils,(.hs 395 0 2 2 5 true)])),(157,(.row 0 [(.int .i64 3),(.int .i64 0),(.str ⟨#[78]⟩),.nils,.nils,(.int .i64 3),(.int .i64 0),(.str ⟨#[78]⟩),.nils,.nils])),(204,(.row 0 [(.int .i64 3),(.int .i64 0),(.str ⟨#[69,113,46,114,101,102,108]⟩),c67,.nils,(.int .i64 6),(.int .i64 0),(.str ⟨#[]⟩),.nils,(.hs 168 0 2 2 5 true)])),(206,(.row 0 [(.int .i64 4),(.int .i64 0),(.str ⟨#[]⟩),.nils,(.hs 215 0 2 2 5 true),(.int .i64 3),(.int .i64 0),(.str ⟨#[115]⟩),.nils,.nils])),(288,(.row 0 [(.int .i64 4),(.int .i64 0),(.str ⟨#[]⟩),.nils,c105,(.int .i64 4),(.int .i64 0),(.str ⟨#[]⟩),.nils,(.hs 217 0 2 2 5 true)])),(290,(.row 0 [(.int .i64 4),(.int .i64 0),(.str ⟨#[]⟩),.nils,(.hs 299 0 2 2 5 true),(.int .i64 4),(.int .i64 0),(.str ⟨#[]⟩),.nils,ZFt])),(384,(.row 0 [(.int .i64 4),(.int .i64 0),(.str ⟨#[]⟩),.nils,ZFO,(.int .i64 4),(.int .i64 0),(.str ⟨#[]⟩),.nils,(.hs 301 0 2 2 5 true)]))]}
]
def ZHg:ZCr:=ZIN++ZGE
def l18:Tab:=[
 (98,[c10,c10,(.fn (.func 54) [] [])],(.bool true)),
 (98,[c19,c19,(.fn (.func 54) [] [])],(.bool true)),
 (98,[c42,c42,(.fn (.func 54) [] [])],(.bool true)),
 (98,[c59,c59,(.fn (.func 54) [] [])],(.bool true))
]
def t18:Tab:=l18++t17
def ZHh:ZCr:=ZHg
def l19:Tab:=[
 (54,[c11,c11],(.bool true)),
 (54,[ZIu,ZIu],(.bool true)),
 (54,[ZIv,ZIv],(.bool true)),
 (54,[ZIw,ZIw],(.bool true))
]
def t19:Tab:=l19++t18
def ZHi:ZCr:=ZHh
def l20:Tab:=[
 (98,[c20,c20,(.fn (.func 54) [] [])],(.bool true)),
 (98,[c43,c43,(.fn (.func 54) [] [])],(.bool true)),
 (98,[c60,c60,(.fn (.func 54) [] [])],(.bool true))
]
def t20:Tab:=l20++t19
def ZHj:ZCr:=ZHi
def l21:Tab:=[
 (54,[ZIx,ZIx],(.bool true)),
 (54,[c182,c182],(.bool true)),
 (54,[c183,c183],(.bool true))
]
def t21:Tab:=l21++t20
def ZHk:ZCr:=ZHj
def l22:Tab:=[
 (98,[c21,c21,(.fn (.func 54) [] [])],(.bool true)),
 (98,[c44,c44,(.fn (.func 54) [] [])],(.bool true)),
 (98,[c61,c61,(.fn (.func 54) [] [])],(.bool true))
]
def t22:Tab:=l22++t21
def ZHl:ZCr:=ZHk
def l23:Tab:=[
 (54,[c22,c22],(.bool true)),
 (54,[ZIy,ZIy],(.bool true)),
 (54,[ZIz,ZIz],(.bool true))
]
def t23:Tab:=l23++t22
def ZHm:ZCr:=ZHl
def l24:Tab:=[
 (98,[c45,c45,(.fn (.func 54) [] [])],(.bool true)),
 (98,[c62,c62,(.fn (.func 54) [] [])],(.bool true))
]
def t24:Tab:=l24++t23
def ZHn:ZCr:=ZHm
def l25:Tab:=[
 (54,[ZIA,ZIA],(.bool true)),
 (54,[ZIB,ZIB],(.bool true))
]
def t25:Tab:=l25++t24
def ZHo:ZCr:=ZHn
def l26:Tab:=[
 (98,[c46,c46,(.fn (.func 54) [] [])],(.bool true)),
 (98,[c63,c63,(.fn (.func 54) [] [])],(.bool true))
]
def t26:Tab:=l26++t25
def ZHp:ZCr:=ZHo
def l27:Tab:=[
 (54,[ZIC,ZIC],(.bool true)),
 (54,[c64,c64],(.bool true))
]
def t27:Tab:=l27++t26
def ZHq:ZCr:=ZHp
def l28:Tab:=[
 (98,[c47,c47,(.fn (.func 54) [] [])],(.bool true))
]
def t28:Tab:=l28++t27
def ZHr:ZCr:=ZHq
def l29:Tab:=[
 (54,[ZID,ZID],(.bool true))
]
def t29:Tab:=l29++t28
def ZHs:ZCr:=ZHr
def l30:Tab:=[
 (98,[c48,c48,(.fn (.func 54) [] [])],(.bool true))
]
def t30:Tab:=l30++t29
def ZHt:ZCr:=ZHs
def l31:Tab:=[
 (54,[c49,c49],(.bool true))
]
def t31:Tab:=l31++t30
def ZHu:ZCr:=ZHt
def l32:Tab:=[
 (33,[c69],(.bool true))
]
def t32:Tab:=l32++t31
def ZHv:ZCr:=ZHu
def l33:Tab:=[
 (19,[(.agg [c69,.nils,.nils,.nils,.nils,.nils,.nils]),c145],(.tup [(.agg [.nils,(.vs [(.int .i64 6),(.int .i64 0),(.str ⟨#[]⟩),.nils,c141,(.bool true),(.int .i64 5),(.int .i64 0),(.str ⟨#[]⟩),.nils,c119,(.bool false)] 1 12 .lock),.nils,.nils,(.int .i64 0),(.vs [] 0 8 .tight),(.int .i64 6),(.int .i64 0),(.str ⟨#[]⟩),.nils,c141,(.int .i64 12),(.int .i64 0),(.str ⟨#[]⟩),.nils,.nils]),(.int .i64 0)]))
]
def t33:Tab:=l33++t32
def ZHw:ZCr:=ZHv
def l34:Tab:=[
 (8,[],(.bool true))
]
def t34:Tab:=l34++t33
end
end
end Go.Proofs.YtdlaladdeelegaaGreat.Tb
end
