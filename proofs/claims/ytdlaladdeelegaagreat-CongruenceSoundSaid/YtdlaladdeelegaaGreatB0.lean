/- Known calls of the self-test: values, hints. -/
import Derived.Test.YtdlaladdeelegaaGreatA7
import Derived.Test.YtdlaladdeelegaaGreatProg
import Derived.KernelRfl
set_option linter.all false
namespace Go.Proofs.YtdlaladdeelegaaGreat.Tb
open Go Go.Ae
noncomputable def hint:Hint where
 heap f:=Nat.beq f 22||Nat.beq f 101||Nat.beq f 153||Nat.beq f 123
 rows f d:=match d with
  |some d=> (Nat.beq f 22 && Nat.beq d 41)||(Nat.beq f 22 && Nat.beq d 58)||(Nat.beq f 22 && Nat.beq d 68)||(Nat.beq f 57 && Nat.beq d 20)||(Nat.beq f 19 && Nat.beq d 79)||(Nat.beq f 153 && Nat.beq d 29)||(Nat.beq f 37 && Nat.beq d 60)||(Nat.beq f 123 && Nat.beq d 7)
  |none=> false
 fix f r:=cond (Nat.beq f 19 && Nat.beq r 16) [82] ([])
 frame f:=Nat.beq f 130||Nat.beq f 128||Nat.beq f 52
noncomputable def idl:List FuncId:=[105,114,116,142,166,183,236,35,99]
noncomputable def spar:Nat→Nat→List (Nat×Blk)→List Blk
 |0,_,_=> []
 |k+1,i,[]=> .gone::spar k (i+1) []
 |k+1,i,(j,b)::l=> cond (Nat.beq i j) (b::spar k (i+1) l) (.gone::spar k (i+1) ((j,b)::l))
noncomputable def c0:V:=(.vs [(.int .i64 0),(.int .i64 0)] 1 2 .tight)
noncomputable def c1:V:=(.vs [(.int .i64 0),c0] 1 2 .tight)
noncomputable def c2:V:=(.vs [(.int .i64 0),(.int .i64 1),(.str ⟨#[]⟩),.nils,.nils,(.int .i64 1),(.int .i64 0),(.str ⟨#[]⟩),.nils,.nils] 2 5 .tight)
noncomputable def c3:V:=(.vs [(.int .i64 0),(.int .i64 0),(.str ⟨#[]⟩),.nils,.nils,(.int .i64 6),(.int .i64 0),(.str ⟨#[]⟩),.nils,c2] 2 5 .tight)
noncomputable def c4:V:=(.vs [(.int .i64 2),(.int .i64 0),(.str ⟨#[]⟩),c1,.nils,(.int .i64 6),(.int .i64 0),(.str ⟨#[]⟩),.nils,c3] 2 5 .tight)
noncomputable def c5:V:=(.agg [(.int .i64 6),(.int .i64 0),(.str ⟨#[]⟩),.nils,c4])
noncomputable def c6:V:=(.vs [(.int .i64 3),(.int .i64 0),(.str ⟨#[69,113]⟩),c1,.nils,(.int .i64 0),(.int .i64 1),(.str ⟨#[]⟩),.nils,.nils] 2 5 .tight)
noncomputable def c7:V:=(.vs [(.int .i64 4),(.int .i64 0),(.str ⟨#[]⟩),.nils,c6,(.int .i64 0),(.int .i64 0),(.str ⟨#[]⟩),.nils,.nils] 2 5 .tight)
noncomputable def c8:V:=(.vs [(.int .i64 4),(.int .i64 0),(.str ⟨#[]⟩),.nils,c7,(.int .i64 0),(.int .i64 0),(.str ⟨#[]⟩),.nils,.nils] 2 5 .tight)
noncomputable def c9:V:=(.vs [(.int .i64 0),(.int .i64 0),(.str ⟨#[]⟩),.nils,.nils,(.int .i64 4),(.int .i64 0),(.str ⟨#[]⟩),.nils,c8] 2 5 .tight)
noncomputable def c10:V:=(.vs [(.int .i64 2),(.int .i64 0),(.str ⟨#[]⟩),c1,.nils,(.int .i64 6),(.int .i64 0),(.str ⟨#[]⟩),.nils,c9] 2 5 .tight)
noncomputable def c11:V:=(.agg [(.int .i64 6),(.int .i64 0),(.str ⟨#[]⟩),.nils,c10])
noncomputable def c12:V:=(.vs [(.int .i64 3),(.int .i64 0),(.str ⟨#[69,113]⟩),c1,.nils,(.int .i64 0),(.int .i64 2),(.str ⟨#[]⟩),.nils,.nils] 2 5 .tight)
noncomputable def c13:V:=(.vs [(.int .i64 4),(.int .i64 0),(.str ⟨#[]⟩),.nils,c12,(.int .i64 0),(.int .i64 1),(.str ⟨#[]⟩),.nils,.nils] 2 5 .tight)
noncomputable def c14:V:=(.vs [(.int .i64 4),(.int .i64 0),(.str ⟨#[]⟩),.nils,c13,(.int .i64 0),(.int .i64 0),(.str ⟨#[]⟩),.nils,.nils] 2 5 .tight)
noncomputable def c15:V:=(.vs [(.int .i64 3),(.int .i64 0),(.str ⟨#[69,113]⟩),c1,.nils,(.int .i64 0),(.int .i64 3),(.str ⟨#[]⟩),.nils,.nils] 2 5 .tight)
noncomputable def c16:V:=(.vs [(.int .i64 4),(.int .i64 0),(.str ⟨#[]⟩),.nils,c15,(.int .i64 0),(.int .i64 1),(.str ⟨#[]⟩),.nils,.nils] 2 5 .tight)
noncomputable def c17:V:=(.vs [(.int .i64 4),(.int .i64 0),(.str ⟨#[]⟩),.nils,c16,(.int .i64 0),(.int .i64 2),(.str ⟨#[]⟩),.nils,.nils] 2 5 .tight)
noncomputable def c18:V:=(.vs [(.int .i64 4),(.int .i64 0),(.str ⟨#[]⟩),.nils,c14,(.int .i64 4),(.int .i64 0),(.str ⟨#[]⟩),.nils,c17] 2 5 .tight)
noncomputable def c19:V:=(.vs [(.int .i64 0),(.int .i64 1),(.str ⟨#[]⟩),.nils,.nils,(.int .i64 6),(.int .i64 0),(.str ⟨#[]⟩),.nils,c18] 2 5 .tight)
noncomputable def c20:V:=(.vs [(.int .i64 0),(.int .i64 0),(.str ⟨#[]⟩),.nils,.nils,(.int .i64 6),(.int .i64 0),(.str ⟨#[]⟩),.nils,c19] 2 5 .tight)
noncomputable def c21:V:=(.vs [(.int .i64 2),(.int .i64 0),(.str ⟨#[]⟩),c1,.nils,(.int .i64 6),(.int .i64 0),(.str ⟨#[]⟩),.nils,c20] 2 5 .tight)
noncomputable def c22:V:=(.agg [(.int .i64 6),(.int .i64 0),(.str ⟨#[]⟩),.nils,c21])
noncomputable def c23:V:=(.vs [(.int .i64 1),(.int .i64 0)] 1 2 .tight)
noncomputable def c24:V:=(.vs [(.int .i64 0),c23] 1 2 .tight)
noncomputable def c25:V:=(.vs [(.int .i64 0),(.int .i64 1),(.str ⟨#[]⟩),.nils,.nils,(.int .i64 0),(.int .i64 1),(.str ⟨#[]⟩),.nils,.nils] 2 5 .tight)
noncomputable def c26:V:=(.vs [(.int .i64 0),(.int .i64 2),(.str ⟨#[]⟩),.nils,.nils,(.int .i64 0),(.int .i64 2),(.str ⟨#[]⟩),.nils,.nils] 2 5 .tight)
noncomputable def c27:V:=(.vs [(.int .i64 0),(.int .i64 0),(.int .i64 1),(.int .i64 0)] 2 2 .tight)
noncomputable def c28:V:=(.vs [(.int .i64 0),c27] 1 2 .tight)
noncomputable def c29:V:=(.vs [(.int .i64 0),(.int .i64 5),(.str ⟨#[]⟩),.nils,.nils,(.int .i64 0),(.int .i64 5),(.str ⟨#[]⟩),.nils,.nils] 2 5 .tight)
noncomputable def c30:V:=(.vs [(.int .i64 3),(.int .i64 0),(.str ⟨#[69,113]⟩),c28,.nils,(.int .i64 6),(.int .i64 0),(.str ⟨#[]⟩),.nils,c29] 2 5 .tight)
noncomputable def c31:V:=(.vs [(.int .i64 4),(.int .i64 0),(.str ⟨#[]⟩),.nils,c30,(.int .i64 0),(.int .i64 3),(.str ⟨#[]⟩),.nils,.nils] 2 5 .tight)
noncomputable def c32:V:=(.vs [(.int .i64 4),(.int .i64 0),(.str ⟨#[]⟩),.nils,c31,(.int .i64 0),(.int .i64 2),(.str ⟨#[]⟩),.nils,.nils] 2 5 .tight)
noncomputable def c33:V:=(.vs [(.int .i64 3),(.int .i64 0),(.str ⟨#[69,113]⟩),c1,.nils,(.int .i64 0),(.int .i64 6),(.str ⟨#[]⟩),.nils,.nils] 2 5 .tight)
noncomputable def c34:V:=(.vs [(.int .i64 4),(.int .i64 0),(.str ⟨#[]⟩),.nils,c33,(.int .i64 0),(.int .i64 2),(.str ⟨#[]⟩),.nils,.nils] 2 5 .tight)
noncomputable def c35:V:=(.vs [(.int .i64 4),(.int .i64 0),(.str ⟨#[]⟩),.nils,c34,(.int .i64 0),(.int .i64 1),(.str ⟨#[]⟩),.nils,.nils] 2 5 .tight)
noncomputable def c36:V:=(.vs [(.int .i64 3),(.int .i64 0),(.str ⟨#[69,113]⟩),c24,.nils,(.int .i64 0),(.int .i64 6),(.str ⟨#[]⟩),.nils,.nils] 2 5 .tight)
noncomputable def c37:V:=(.vs [(.int .i64 0),(.int .i64 5),(.str ⟨#[]⟩),.nils,.nils,(.int .i64 0),(.int .i64 3),(.str ⟨#[]⟩),.nils,.nils] 2 5 .tight)
noncomputable def c38:V:=(.vs [(.int .i64 4),(.int .i64 0),(.str ⟨#[]⟩),.nils,c36,(.int .i64 4),(.int .i64 0),(.str ⟨#[]⟩),.nils,c37] 2 5 .tight)
noncomputable def c39:V:=(.vs [(.int .i64 0),(.int .i64 4),(.str ⟨#[]⟩),.nils,.nils,(.int .i64 0),(.int .i64 2),(.str ⟨#[]⟩),.nils,.nils] 2 5 .tight)
noncomputable def c40:V:=(.vs [(.int .i64 4),(.int .i64 0),(.str ⟨#[]⟩),.nils,c38,(.int .i64 4),(.int .i64 0),(.str ⟨#[]⟩),.nils,c39] 2 5 .tight)
noncomputable def c41:V:=(.vs [(.int .i64 4),(.int .i64 0),(.str ⟨#[]⟩),.nils,c35,(.int .i64 4),(.int .i64 0),(.str ⟨#[]⟩),.nils,c40] 2 5 .tight)
noncomputable def c42:V:=(.vs [(.int .i64 4),(.int .i64 0),(.str ⟨#[]⟩),.nils,c32,(.int .i64 6),(.int .i64 0),(.str ⟨#[]⟩),.nils,c41] 2 5 .tight)
noncomputable def c43:V:=(.vs [(.int .i64 0),(.int .i64 4),(.str ⟨#[]⟩),.nils,.nils,(.int .i64 6),(.int .i64 0),(.str ⟨#[]⟩),.nils,c42] 2 5 .tight)
noncomputable def c44:V:=(.vs [(.int .i64 0),(.int .i64 3),(.str ⟨#[]⟩),.nils,.nils,(.int .i64 6),(.int .i64 0),(.str ⟨#[]⟩),.nils,c43] 2 5 .tight)
noncomputable def c45:V:=(.vs [(.int .i64 6),(.int .i64 0),(.str ⟨#[]⟩),.nils,c26,(.int .i64 6),(.int .i64 0),(.str ⟨#[]⟩),.nils,c44] 2 5 .tight)
noncomputable def c46:V:=(.vs [(.int .i64 6),(.int .i64 0),(.str ⟨#[]⟩),.nils,c25,(.int .i64 6),(.int .i64 0),(.str ⟨#[]⟩),.nils,c45] 2 5 .tight)
noncomputable def c47:V:=(.vs [(.int .i64 2),(.int .i64 0),(.str ⟨#[]⟩),c24,.nils,(.int .i64 6),(.int .i64 0),(.str ⟨#[]⟩),.nils,c46] 2 5 .tight)
noncomputable def c48:V:=(.vs [(.int .i64 2),(.int .i64 0),(.str ⟨#[]⟩),c1,.nils,(.int .i64 6),(.int .i64 0),(.str ⟨#[]⟩),.nils,c47] 2 5 .tight)
noncomputable def c49:V:=(.agg [(.int .i64 6),(.int .i64 0),(.str ⟨#[]⟩),.nils,c48])
noncomputable def c50:V:=(.vs [(.int .i64 4),(.int .i64 0),(.str ⟨#[]⟩),.nils,c15,(.int .i64 0),(.int .i64 2),(.str ⟨#[]⟩),.nils,.nils] 2 5 .tight)
noncomputable def c51:V:=(.vs [(.int .i64 4),(.int .i64 0),(.str ⟨#[]⟩),.nils,c50,(.int .i64 0),(.int .i64 1),(.str ⟨#[]⟩),.nils,.nils] 2 5 .tight)
noncomputable def c52:V:=(.vs [(.int .i64 3),(.int .i64 0),(.str ⟨#[69,113]⟩),c1,.nils,(.int .i64 0),(.int .i64 4),(.str ⟨#[]⟩),.nils,.nils] 2 5 .tight)
noncomputable def c53:V:=(.vs [(.int .i64 4),(.int .i64 0),(.str ⟨#[]⟩),.nils,c52,(.int .i64 0),(.int .i64 2),(.str ⟨#[]⟩),.nils,.nils] 2 5 .tight)
noncomputable def c54:V:=(.vs [(.int .i64 4),(.int .i64 0),(.str ⟨#[]⟩),.nils,c53,(.int .i64 0),(.int .i64 1),(.str ⟨#[]⟩),.nils,.nils] 2 5 .tight)
noncomputable def c55:V:=(.vs [(.int .i64 3),(.int .i64 0),(.str ⟨#[69,113]⟩),c1,.nils,(.int .i64 0),(.int .i64 5),(.str ⟨#[]⟩),.nils,.nils] 2 5 .tight)
noncomputable def c56:V:=(.vs [(.int .i64 4),(.int .i64 0),(.str ⟨#[]⟩),.nils,c55,(.int .i64 0),(.int .i64 4),(.str ⟨#[]⟩),.nils,.nils] 2 5 .tight)
noncomputable def c57:V:=(.vs [(.int .i64 4),(.int .i64 0),(.str ⟨#[]⟩),.nils,c56,(.int .i64 0),(.int .i64 2),(.str ⟨#[]⟩),.nils,.nils] 2 5 .tight)
noncomputable def c58:V:=(.vs [(.int .i64 4),(.int .i64 0),(.str ⟨#[]⟩),.nils,c54,(.int .i64 4),(.int .i64 0),(.str ⟨#[]⟩),.nils,c57] 2 5 .tight)
noncomputable def c59:V:=(.vs [(.int .i64 4),(.int .i64 0),(.str ⟨#[]⟩),.nils,c51,(.int .i64 6),(.int .i64 0),(.str ⟨#[]⟩),.nils,c58] 2 5 .tight)
noncomputable def c60:V:=(.vs [(.int .i64 0),(.int .i64 2),(.str ⟨#[]⟩),.nils,.nils,(.int .i64 6),(.int .i64 0),(.str ⟨#[]⟩),.nils,c59] 2 5 .tight)
noncomputable def c61:V:=(.vs [(.int .i64 0),(.int .i64 1),(.str ⟨#[]⟩),.nils,.nils,(.int .i64 6),(.int .i64 0),(.str ⟨#[]⟩),.nils,c60] 2 5 .tight)
noncomputable def c62:V:=(.vs [(.int .i64 0),(.int .i64 0),(.str ⟨#[]⟩),.nils,.nils,(.int .i64 6),(.int .i64 0),(.str ⟨#[]⟩),.nils,c61] 2 5 .tight)
noncomputable def c63:V:=(.vs [(.int .i64 2),(.int .i64 0),(.str ⟨#[]⟩),c1,.nils,(.int .i64 6),(.int .i64 0),(.str ⟨#[]⟩),.nils,c62] 2 5 .tight)
noncomputable def c64:V:=(.agg [(.int .i64 6),(.int .i64 0),(.str ⟨#[]⟩),.nils,c63])
noncomputable def c65:V:=(.vs [(.int .i64 1),(.int .i64 0),(.int .i64 1),(.int .i64 2),(.int .i64 1),(.int .i64 3)] 3 2 .tight)
noncomputable def c66:V:=(.vs [(.int .i64 4),(.int .i64 0),(.int .i64 3),(.int .i64 2)] 2 2 .tight)
noncomputable def c67:V:=(.vs [(.int .i64 0),.nils] 1 2 .tight)
noncomputable def c68:V:=(.vs [(.int .i64 3),(.int .i64 0),(.str ⟨#[78]⟩),.nils,.nils,(.int .i64 3),(.int .i64 0),(.str ⟨#[78]⟩),.nils,.nils] 2 5 .tight)
noncomputable def c69:V:=(.vs [(.int .i64 0),(.str ⟨#[69,113]⟩),(.int .i64 1),(.int .i64 6),(.int .i64 0),(.str ⟨#[]⟩),.nils,c4,(.int .i64 0),(.int .i64 0),(.str ⟨#[]⟩),.nils,.nils,(.int .i64 0),.nils,(.int .i64 0),(.int .i64 0),(.int .i64 0),(.str ⟨#[]⟩),.nils,.nils,.nils,.nils,(.int .i64 0),(.str ⟨#[69,113,46,114,101,102,108]⟩),(.int .i64 1),(.int .i64 6),(.int .i64 0),(.str ⟨#[]⟩),.nils,c10,(.int .i64 0),(.int .i64 0),(.str ⟨#[]⟩),.nils,.nils,(.int .i64 0),.nils,(.int .i64 0),(.int .i64 0),(.int .i64 0),(.str ⟨#[]⟩),.nils,.nils,.nils,.nils,(.int .i64 0),(.str ⟨#[69,113,46,115,121,109,109]⟩),(.int .i64 1),(.int .i64 6),(.int .i64 0),(.str ⟨#[]⟩),.nils,c21,(.int .i64 0),(.int .i64 0),(.str ⟨#[]⟩),.nils,.nils,(.int .i64 0),.nils,(.int .i64 0),(.int .i64 0),(.int .i64 0),(.str ⟨#[]⟩),.nils,.nils,.nils,.nils,(.int .i64 0),(.str ⟨#[69,113,46,116,114,97,110,115]⟩),(.int .i64 1),(.int .i64 6),(.int .i64 0),(.str ⟨#[]⟩),.nils,c63,(.int .i64 0),(.int .i64 0),(.str ⟨#[]⟩),.nils,.nils,(.int .i64 0),.nils,(.int .i64 0),(.int .i64 0),(.int .i64 0),(.str ⟨#[]⟩),.nils,.nils,.nils,.nils,(.int .i64 0),(.str ⟨#[69,113,46,99,111,110,103,114]⟩),(.int .i64 2),(.int .i64 6),(.int .i64 0),(.str ⟨#[]⟩),.nils,c48,(.int .i64 0),(.int .i64 0),(.str ⟨#[]⟩),.nils,.nils,(.int .i64 0),.nils,(.int .i64 0),(.int .i64 0),(.int .i64 0),(.str ⟨#[]⟩),.nils,.nils,.nils,.nils,(.int .i64 0),(.str ⟨#[78]⟩),(.int .i64 0),(.int .i64 2),(.int .i64 0),(.str ⟨#[]⟩),c67,.nils,(.int .i64 0),(.int .i64 0),(.str ⟨#[]⟩),.nils,.nils,(.int .i64 0),.nils,(.int .i64 0),(.int .i64 0),(.int .i64 0),(.str ⟨#[]⟩),.nils,.nils,.nils,.nils,(.int .i64 0),(.str ⟨#[115]⟩),(.int .i64 0),(.int .i64 6),(.int .i64 0),(.str ⟨#[]⟩),.nils,c68,(.int .i64 0),(.int .i64 0),(.str ⟨#[]⟩),.nils,.nils,(.int .i64 0),.nils,(.int .i64 0),(.int .i64 0),(.int .i64 0),(.str ⟨#[]⟩),.nils,.nils,.nils,.nils] 7 23 .lock)
noncomputable def c70:V:=(.agg [(.int .i64 0),(.int .i64 0),(.str ⟨#[]⟩),.nils,.nils])
noncomputable def c71:V:=(.agg [(.int .i64 0),(.int .i64 1),(.str ⟨#[]⟩),.nils,.nils])
noncomputable def c72:V:=(.agg [(.int .i64 1),(.int .i64 0),(.str ⟨#[]⟩),.nils,.nils])
noncomputable def c73:V:=(.agg [(.int .i64 0),(.int .i64 2),(.str ⟨#[]⟩),.nils,.nils])
noncomputable def c74:V:=(.agg [(.int .i64 0),(.int .i64 3),(.str ⟨#[]⟩),.nils,.nils])
noncomputable def c75:V:=(.agg [(.int .i64 0),(.int .i64 4),(.str ⟨#[]⟩),.nils,.nils])
noncomputable def c76:V:=(.agg [(.int .i64 0),(.int .i64 5),(.str ⟨#[]⟩),.nils,.nils])
noncomputable def c77:V:=(.agg [(.int .i64 0),(.int .i64 6),(.str ⟨#[]⟩),.nils,.nils])
noncomputable def c78:V:=(.vs [(.int .i64 3),(.int .i64 0),(.str ⟨#[69,113]⟩),c67,.nils,(.int .i64 3),(.int .i64 0),(.str ⟨#[78]⟩),.nils,.nils] 2 5 .tight)
noncomputable def c79:V:=(.vs [(.int .i64 3),(.int .i64 0),(.str ⟨#[115]⟩),.nils,.nils,(.int .i64 0),(.int .i64 2),(.str ⟨#[]⟩),.nils,.nils] 2 5 .tight)
noncomputable def c80:V:=(.vs [(.int .i64 3),(.int .i64 0),(.str ⟨#[115]⟩),.nils,.nils,(.int .i64 0),(.int .i64 1),(.str ⟨#[]⟩),.nils,.nils] 2 5 .tight)
noncomputable def c81:V:=(.vs [(.int .i64 4),(.int .i64 0),(.str ⟨#[]⟩),.nils,(.vs [(.int .i64 4),(.int .i64 0),(.str ⟨#[]⟩),.nils,c78,(.int .i64 4),(.int .i64 0),(.str ⟨#[]⟩),.nils,c79] 2 5 .tight),(.int .i64 4),(.int .i64 0),(.str ⟨#[]⟩),.nils,c80] 2 5 .tight)
noncomputable def c82:V:=(.agg [(.int .i64 4),(.int .i64 0),(.str ⟨#[]⟩),.nils,c81])
noncomputable def c83:V:=(.agg [(.int .i64 3),(.int .i64 0),(.str ⟨#[69,113]⟩),c67,.nils])
noncomputable def c84:V:=(.agg [(.int .i64 3),(.int .i64 0),(.str ⟨#[78]⟩),.nils,.nils])
noncomputable def c85:V:=(.agg [(.int .i64 4),(.int .i64 0),(.str ⟨#[]⟩),.nils,c79])
noncomputable def c86:V:=(.agg [(.int .i64 3),(.int .i64 0),(.str ⟨#[115]⟩),.nils,.nils])
noncomputable def c87:V:=(.agg [(.int .i64 4),(.int .i64 0),(.str ⟨#[]⟩),.nils,c80])
noncomputable def c88:V:=(.vs [(.int .i64 4),(.int .i64 0),(.str ⟨#[]⟩),.nils,c78,(.int .i64 0),(.int .i64 1),(.str ⟨#[]⟩),.nils,.nils] 2 5 .tight)
noncomputable def c89:V:=(.vs [(.int .i64 4),(.int .i64 0),(.str ⟨#[]⟩),.nils,c88,(.int .i64 0),(.int .i64 0),(.str ⟨#[]⟩),.nils,.nils] 2 5 .tight)
noncomputable def c90:V:=(.agg [(.int .i64 4),(.int .i64 0),(.str ⟨#[]⟩),.nils,c89])
noncomputable def c91:V:=(.tup [(.agg [(.int .i64 0),.nils]),(.int .i64 0)])
noncomputable def c92:V:=(.vs [(.int .i64 0),.nils] 1 2 .lock)
noncomputable def c93:V:=(.agg [(.int .i64 2),(.int .i64 0),(.str ⟨#[]⟩),c92,.nils])
noncomputable def c94:V:=(.tup [c93,(.int .i64 0)])
noncomputable def c95:V:=(.agg [(.int .i64 6),(.int .i64 0),(.str ⟨#[]⟩),.nils,c68])
noncomputable def c96:V:=(.tup [c95,(.int .i64 0)])
noncomputable def c97:V:=(.tup [c73,(.int .i64 0)])
noncomputable def c98:V:=(.tup [c71,(.int .i64 0)])
noncomputable def c99:V:=(.agg [(.int .i64 4),(.int .i64 0),(.str ⟨#[]⟩),.nils,(.vs [(.int .i64 4),(.int .i64 0),(.str ⟨#[]⟩),.nils,(.vs [(.int .i64 4),(.int .i64 0),(.str ⟨#[]⟩),.nils,(.vs [(.int .i64 3),(.int .i64 0),(.str ⟨#[69,113]⟩),c92,.nils,(.int .i64 3),(.int .i64 0),(.str ⟨#[78]⟩),.nils,.nils] 2 5 .tight),(.int .i64 0),(.int .i64 2),(.str ⟨#[]⟩),.nils,.nils] 2 5 .tight),(.int .i64 0),(.int .i64 1),(.str ⟨#[]⟩),.nils,.nils] 2 5 .tight)])
noncomputable def c100:V:=(.vs [(.int .i64 3),(.int .i64 0),(.str ⟨#[69,113,46,99,111,110,103,114]⟩),(.vs [(.int .i64 0),.nils,(.int .i64 0),.nils] 2 2 .tight),.nils,(.int .i64 3),(.int .i64 0),(.str ⟨#[78]⟩),.nils,.nils] 2 5 .tight)
noncomputable def c101:V:=(.vs [(.int .i64 4),(.int .i64 0),(.str ⟨#[]⟩),.nils,c100,(.int .i64 3),(.int .i64 0),(.str ⟨#[78]⟩),.nils,.nils] 2 5 .tight)
noncomputable def c102:V:=(.vs [(.int .i64 4),(.int .i64 0),(.str ⟨#[]⟩),.nils,c101,(.int .i64 3),(.int .i64 0),(.str ⟨#[115]⟩),.nils,.nils] 2 5 .tight)
noncomputable def c103:V:=(.vs [(.int .i64 4),(.int .i64 0),(.str ⟨#[]⟩),.nils,c102,(.int .i64 3),(.int .i64 0),(.str ⟨#[115]⟩),.nils,.nils] 2 5 .tight)
noncomputable def c104:V:=(.vs [(.int .i64 4),(.int .i64 0),(.str ⟨#[]⟩),.nils,c103,(.int .i64 0),(.int .i64 1),(.str ⟨#[]⟩),.nils,.nils] 2 5 .tight)
noncomputable def c105:V:=(.vs [(.int .i64 4),(.int .i64 0),(.str ⟨#[]⟩),.nils,c104,(.int .i64 0),(.int .i64 2),(.str ⟨#[]⟩),.nils,.nils] 2 5 .tight)
noncomputable def c106:V:=(.vs [(.int .i64 4),(.int .i64 0),(.str ⟨#[]⟩),.nils,(.vs [(.int .i64 3),(.int .i64 0),(.str ⟨#[69,113,46,114,101,102,108]⟩),c67,.nils,(.int .i64 6),(.int .i64 0),(.str ⟨#[]⟩),.nils,c68] 2 5 .tight),(.int .i64 3),(.int .i64 0),(.str ⟨#[115]⟩),.nils,.nils] 2 5 .tight)
noncomputable def c107:V:=(.vs [(.int .i64 3),(.int .i64 0),(.str ⟨#[69,113,46,115,121,109,109]⟩),c67,.nils,(.int .i64 3),(.int .i64 0),(.str ⟨#[78]⟩),.nils,.nils] 2 5 .tight)
noncomputable def c108:V:=(.vs [(.int .i64 4),(.int .i64 0),(.str ⟨#[]⟩),.nils,c107,(.int .i64 0),(.int .i64 2),(.str ⟨#[]⟩),.nils,.nils] 2 5 .tight)
noncomputable def c109:V:=(.vs [(.int .i64 4),(.int .i64 0),(.str ⟨#[]⟩),.nils,c108,(.int .i64 0),(.int .i64 1),(.str ⟨#[]⟩),.nils,.nils] 2 5 .tight)
noncomputable def c110:V:=(.vs [(.int .i64 4),(.int .i64 0),(.str ⟨#[]⟩),.nils,c109,(.int .i64 0),(.int .i64 0),(.str ⟨#[]⟩),.nils,.nils] 2 5 .tight)
noncomputable def c111:V:=(.vs [(.int .i64 4),(.int .i64 0),(.str ⟨#[]⟩),.nils,(.vs [(.int .i64 4),(.int .i64 0),(.str ⟨#[]⟩),.nils,c105,(.int .i64 4),(.int .i64 0),(.str ⟨#[]⟩),.nils,c106] 2 5 .tight),(.int .i64 4),(.int .i64 0),(.str ⟨#[]⟩),.nils,c110] 2 5 .tight)
noncomputable def c112:V:=(.agg [(.int .i64 4),(.int .i64 0),(.str ⟨#[]⟩),.nils,c111])
noncomputable def c113:V:=(.agg [(.int .i64 4),(.int .i64 0),(.str ⟨#[]⟩),.nils,c110])
noncomputable def c114:V:=(.vs [(.int .i64 4),(.int .i64 0),(.str ⟨#[]⟩),.nils,c107,(.int .i64 4),(.int .i64 0),(.str ⟨#[]⟩),.nils,c80] 2 5 .tight)
noncomputable def c115:V:=(.vs [(.int .i64 4),(.int .i64 0),(.str ⟨#[]⟩),.nils,c114,(.int .i64 4),(.int .i64 0),(.str ⟨#[]⟩),.nils,c79] 2 5 .tight)
noncomputable def c116:V:=(.vs [(.int .i64 4),(.int .i64 0),(.str ⟨#[]⟩),.nils,c115,(.int .i64 4),(.int .i64 0),(.str ⟨#[]⟩),.nils,c111] 2 5 .tight)
noncomputable def c117:V:=(.vs [(.int .i64 4),(.int .i64 0),(.str ⟨#[]⟩),.nils,c89,(.int .i64 4),(.int .i64 0),(.str ⟨#[]⟩),.nils,c116] 2 5 .tight)
noncomputable def c118:V:=(.vs [(.int .i64 3),(.int .i64 0),(.str ⟨#[78]⟩),.nils,.nils,(.int .i64 5),(.int .i64 0),(.str ⟨#[]⟩),.nils,c117] 2 5 .tight)
noncomputable def c119:V:=(.vs [(.int .i64 3),(.int .i64 0),(.str ⟨#[78]⟩),.nils,.nils,(.int .i64 5),(.int .i64 0),(.str ⟨#[]⟩),.nils,c118] 2 5 .tight)
noncomputable def c120:V:=(.agg [(.int .i64 5),(.int .i64 0),(.str ⟨#[]⟩),.nils,c119])
noncomputable def c121:V:=(.vs [(.int .i64 3),(.int .i64 0),(.str ⟨#[78]⟩),.nils,.nils,(.int .i64 3),(.int .i64 0),(.str ⟨#[78]⟩),.nils,.nils,(.int .i64 4),(.int .i64 0),(.str ⟨#[]⟩),.nils,c89] 3 5 .lock)
noncomputable def c122:V:=(.tup [c84,(.int .i64 0)])
noncomputable def c123:V:=(.tup [c70,(.bool false)])
noncomputable def c124:V:=(.tup [c86,(.int .i64 0)])
noncomputable def c125:V:=(.tup [c87,(.int .i64 0)])
noncomputable def c126:V:=(.tup [c85,(.int .i64 0)])
noncomputable def c127:V:=(.tup [(.bool false),(.int .i64 0)])
noncomputable def c128:V:=(.agg [(.int .i64 2),(.int .i64 0),(.str ⟨#[]⟩),c1,.nils])
noncomputable def c129:V:=(.agg [(.int .i64 6),(.int .i64 0),(.str ⟨#[]⟩),.nils,c2])
noncomputable def c130:V:=(.agg [(.int .i64 3),(.int .i64 0),(.str ⟨#[69,113]⟩),c1,.nils])
noncomputable def c131:V:=(.agg [(.int .i64 2),(.int .i64 0),(.str ⟨#[]⟩),c24,.nils])
noncomputable def c132:V:=(.agg [(.int .i64 6),(.int .i64 0),(.str ⟨#[]⟩),.nils,c25])
noncomputable def c133:V:=(.agg [(.int .i64 6),(.int .i64 0),(.str ⟨#[]⟩),.nils,c26])
noncomputable def c134:V:=(.agg [(.int .i64 3),(.int .i64 0),(.str ⟨#[69,113]⟩),c28,.nils])
noncomputable def c135:V:=(.agg [(.int .i64 6),(.int .i64 0),(.str ⟨#[]⟩),.nils,c29])
noncomputable def c136:V:=(.agg [(.int .i64 3),(.int .i64 0),(.str ⟨#[69,113]⟩),c24,.nils])
noncomputable def c137:V:=(.agg [(.int .i64 4),(.int .i64 0),(.str ⟨#[]⟩),.nils,c37])
noncomputable def c138:V:=(.agg [(.int .i64 4),(.int .i64 0),(.str ⟨#[]⟩),.nils,c39])
noncomputable def c139:V:=(.fn (.func 130) [] [(.ptr 8 0),(.ptr 3 0),(.ptr 10 0),(.ptr 9 0)])
noncomputable def c140:V:=(.fn (.func 128) [] [(.ptr 6 0),(.ptr 7 0),(.ptr 9 0),(.ptr 3 0)])
noncomputable def c141:V:=(.vs [(.int .i64 3),(.int .i64 0),(.str ⟨#[78]⟩),.nils,.nils,(.int .i64 6),(.int .i64 0),(.str ⟨#[]⟩),.nils,(.vs [(.int .i64 3),(.int .i64 0),(.str ⟨#[78]⟩),.nils,.nils,(.int .i64 6),(.int .i64 0),(.str ⟨#[]⟩),.nils,(.vs [(.int .i64 4),(.int .i64 0),(.str ⟨#[]⟩),.nils,c89,(.int .i64 4),(.int .i64 0),(.str ⟨#[]⟩),.nils,c81] 2 5 .tight)] 2 5 .tight)] 2 5 .tight)
noncomputable def c142:V:=(.vs [(.int .i64 6),(.int .i64 0),(.str ⟨#[]⟩),.nils,c141,(.bool false),(.int .i64 0),(.int .i64 0),(.str ⟨#[]⟩),.nils,.nils,(.bool false)] 1 12 .tight)
noncomputable def c143:V:=(.agg [(.int .i64 2),(.int .i64 0),(.str ⟨#[]⟩),c67,.nils])
noncomputable def c144:V:=(.agg [c69])
noncomputable def c145:V:=(.agg [.nils,c142,.nils,.nils,(.int .i64 0),(.vs [(.int .i64 0),(.vs [(.str ⟨#[120]⟩),(.str ⟨#[120]⟩),(.str ⟨#[120]⟩)] 3 1 .lock),(.vs [(.int .i64 3),(.int .i64 0),(.str ⟨#[78]⟩),.nils,.nils,(.int .i64 3),(.int .i64 0),(.str ⟨#[78]⟩),.nils,.nils,(.int .i64 4),(.int .i64 0),(.str ⟨#[]⟩),.nils,c89] 3 5 .tight),(.int .i64 4),(.int .i64 0),(.str ⟨#[]⟩),.nils,c81] 1 8 .tight),(.int .i64 6),(.int .i64 0),(.str ⟨#[]⟩),.nils,c141,(.int .i64 12),(.int .i64 0),(.str ⟨#[]⟩),.nils,.nils])
noncomputable def c146:V:=(.agg [(.int .i64 6),(.int .i64 0),(.str ⟨#[]⟩),.nils,c3])
noncomputable def c147:V:=(.agg [(.int .i64 4),(.int .i64 0),(.str ⟨#[]⟩),.nils,c6])
noncomputable def c148:V:=(.agg [(.int .i64 4),(.int .i64 0),(.str ⟨#[]⟩),.nils,c12])
noncomputable def c149:V:=(.agg [(.int .i64 4),(.int .i64 0),(.str ⟨#[]⟩),.nils,c15])
noncomputable def c150:V:=(.agg [(.int .i64 4),(.int .i64 0),(.str ⟨#[]⟩),.nils,c30])
noncomputable def c151:V:=(.agg [(.int .i64 4),(.int .i64 0),(.str ⟨#[]⟩),.nils,c33])
noncomputable def c152:V:=(.agg [(.int .i64 4),(.int .i64 0),(.str ⟨#[]⟩),.nils,c36])
noncomputable def c153:V:=(.agg [(.int .i64 4),(.int .i64 0),(.str ⟨#[]⟩),.nils,c52])
noncomputable def c154:V:=(.agg [(.int .i64 4),(.int .i64 0),(.str ⟨#[]⟩),.nils,c55])
noncomputable def c155:V:=(.vs [(.int .i64 3),(.int .i64 0),(.str ⟨#[78]⟩),.nils,.nils,(.int .i64 3),(.int .i64 0),(.str ⟨#[78]⟩),.nils,.nils,(.int .i64 4),(.int .i64 0),(.str ⟨#[]⟩),.nils,c89,(.int .i64 3),(.int .i64 0),(.str ⟨#[78]⟩),.nils,.nils] 4 5 .lock)
noncomputable def c156:V:=(.agg [(.int .i64 4),(.int .i64 0),(.str ⟨#[]⟩),.nils,c7])
noncomputable def c157:V:=(.agg [(.int .i64 4),(.int .i64 0),(.str ⟨#[]⟩),.nils,c13])
noncomputable def c158:V:=(.agg [(.int .i64 4),(.int .i64 0),(.str ⟨#[]⟩),.nils,c16])
noncomputable def c159:V:=(.agg [(.int .i64 4),(.int .i64 0),(.str ⟨#[]⟩),.nils,c31])
noncomputable def c160:V:=(.agg [(.int .i64 4),(.int .i64 0),(.str ⟨#[]⟩),.nils,c34])
noncomputable def c161:V:=(.agg [(.int .i64 4),(.int .i64 0),(.str ⟨#[]⟩),.nils,c38])
noncomputable def c162:V:=(.agg [(.int .i64 4),(.int .i64 0),(.str ⟨#[]⟩),.nils,c50])
noncomputable def c163:V:=(.agg [(.int .i64 4),(.int .i64 0),(.str ⟨#[]⟩),.nils,c53])
noncomputable def c164:V:=(.agg [(.int .i64 4),(.int .i64 0),(.str ⟨#[]⟩),.nils,c56])
noncomputable def c165:V:=(.agg [(.int .i64 4),(.int .i64 0),(.str ⟨#[]⟩),.nils,c8])
noncomputable def c166:V:=(.agg [(.int .i64 4),(.int .i64 0),(.str ⟨#[]⟩),.nils,c14])
noncomputable def c167:V:=(.agg [(.int .i64 4),(.int .i64 0),(.str ⟨#[]⟩),.nils,c17])
noncomputable def c168:V:=(.agg [(.int .i64 4),(.int .i64 0),(.str ⟨#[]⟩),.nils,c32])
noncomputable def c169:V:=(.agg [(.int .i64 4),(.int .i64 0),(.str ⟨#[]⟩),.nils,c35])
noncomputable def c170:V:=(.agg [(.int .i64 4),(.int .i64 0),(.str ⟨#[]⟩),.nils,c40])
noncomputable def c171:V:=(.agg [(.int .i64 4),(.int .i64 0),(.str ⟨#[]⟩),.nils,c51])
noncomputable def c172:V:=(.agg [(.int .i64 4),(.int .i64 0),(.str ⟨#[]⟩),.nils,c54])
noncomputable def c173:V:=(.agg [(.int .i64 4),(.int .i64 0),(.str ⟨#[]⟩),.nils,c57])
noncomputable def c174:V:=(.agg [(.int .i64 6),(.int .i64 0),(.str ⟨#[]⟩),.nils,c9])
noncomputable def c175:V:=(.agg [(.int .i64 6),(.int .i64 0),(.str ⟨#[]⟩),.nils,c18])
noncomputable def c176:V:=(.agg [(.int .i64 6),(.int .i64 0),(.str ⟨#[]⟩),.nils,c41])
noncomputable def c177:V:=(.agg [(.int .i64 6),(.int .i64 0),(.str ⟨#[]⟩),.nils,c58])
noncomputable def c178:V:=(.agg [(.int .i64 6),(.int .i64 0),(.str ⟨#[]⟩),.nils,c19])
noncomputable def c179:V:=(.agg [(.int .i64 6),(.int .i64 0),(.str ⟨#[]⟩),.nils,c42])
noncomputable def c180:V:=(.agg [(.int .i64 6),(.int .i64 0),(.str ⟨#[]⟩),.nils,c59])
noncomputable def c181:V:=(.agg [(.int .i64 6),(.int .i64 0),(.str ⟨#[]⟩),.nils,c20])
noncomputable def c182:V:=(.agg [(.int .i64 6),(.int .i64 0),(.str ⟨#[]⟩),.nils,c43])
noncomputable def c183:V:=(.agg [(.int .i64 6),(.int .i64 0),(.str ⟨#[]⟩),.nils,c60])
noncomputable def c184:V:=(.agg [(.int .i64 6),(.int .i64 0),(.str ⟨#[]⟩),.nils,c44])
noncomputable def c185:V:=(.agg [(.int .i64 6),(.int .i64 0),(.str ⟨#[]⟩),.nils,c61])
noncomputable def c186:V:=(.agg [(.int .i64 6),(.int .i64 0),(.str ⟨#[]⟩),.nils,c45])
noncomputable def c187:V:=(.agg [(.int .i64 6),(.int .i64 0),(.str ⟨#[]⟩),.nils,c62])
noncomputable def c188:V:=(.agg [(.int .i64 6),(.int .i64 0),(.str ⟨#[]⟩),.nils,c46])
noncomputable def c189:V:=(.agg [(.int .i64 6),(.int .i64 0),(.str ⟨#[]⟩),.nils,c47])
noncomputable def t0:Tab:=[]
noncomputable def ft0:FTab:=[]
noncomputable def l1:Tab:=[]
noncomputable def t1:Tab:=l1++t0
noncomputable def fl1:FTab:=[
 {f:=52,n:=0,args:=[],pre:=[],v:=(.map 3),wr:=[],nw:=spar 9 0 [(3,(.map [((.str ⟨#[69,113]⟩),c5),((.str ⟨#[69,113,46,114,101,102,108]⟩),c11),((.str ⟨#[69,113,46,115,121,109,109]⟩),c22),((.str ⟨#[69,113,46,99,111,110,103,114]⟩),c49),((.str ⟨#[69,113,46,116,114,97,110,115]⟩),c64)] 5))] }
]
noncomputable def ft1:FTab:=fl1++ft0
noncomputable def l2:Tab:=[
 (21,[(.int .i64 2),c65,c66],(.int .i64 0)),
 (24,[(.vs [(.int .i64 2),(.int .i64 3),(.int .i64 0),(.int .i64 4)] 4 1 .lock)],(.int .i64 0)),
 (44,[(.str ⟨#[69,113,46,116,114,97,110,115]⟩)],(.tup [c64,(.int .i64 1)])),
 (44,[(.str ⟨#[69,113,46,99,111,110,103,114]⟩)],(.tup [c49,(.int .i64 2)])),
 (53,[c69,(.str ⟨#[69,113]⟩)],(.tup [(.agg [(.int .i64 0),(.int .i64 0),(.int .i64 0),(.int .i64 1),(.int .i64 6),(.int .i64 0),(.str ⟨#[]⟩),.nils,c4]),(.int .i64 0)])),
 (109,[c0,c0],(.bool true)),
 (54,[c70,c70],(.bool true)),
 (54,[c71,c71],(.bool true)),
 (54,[c72,c72],(.bool true)),
 (53,[c69,(.str ⟨#[69,113,46,114,101,102,108]⟩)],(.tup [(.agg [(.int .i64 0),(.int .i64 1),(.int .i64 0),(.int .i64 1),(.int .i64 6),(.int .i64 0),(.str ⟨#[]⟩),.nils,c10]),(.int .i64 0)])),
 (53,[c69,(.str ⟨#[69,113,46,115,121,109,109]⟩)],(.tup [(.agg [(.int .i64 0),(.int .i64 2),(.int .i64 0),(.int .i64 1),(.int .i64 6),(.int .i64 0),(.str ⟨#[]⟩),.nils,c21]),(.int .i64 0)])),
 (54,[c73,c73],(.bool true)),
 (54,[c74,c74],(.bool true)),
 (53,[c69,(.str ⟨#[69,113,46,99,111,110,103,114]⟩)],(.tup [(.agg [(.int .i64 0),(.int .i64 4),(.int .i64 0),(.int .i64 2),(.int .i64 6),(.int .i64 0),(.str ⟨#[]⟩),.nils,c48]),(.int .i64 0)])),
 (109,[c23,c23],(.bool true)),
 (54,[c75,c75],(.bool true)),
 (109,[c27,c27],(.bool true)),
 (54,[c76,c76],(.bool true)),
 (54,[c77,c77],(.bool true)),
 (53,[c69,(.str ⟨#[69,113,46,116,114,97,110,115]⟩)],(.tup [(.agg [(.int .i64 0),(.int .i64 3),(.int .i64 0),(.int .i64 1),(.int .i64 6),(.int .i64 0),(.str ⟨#[]⟩),.nils,c63]),(.int .i64 0)])),
 (57,[c82],(.tup [c83,(.vs [(.int .i64 3),(.int .i64 0),(.str ⟨#[78]⟩),.nils,.nils,(.int .i64 4),(.int .i64 0),(.str ⟨#[]⟩),.nils,c79,(.int .i64 4),(.int .i64 0),(.str ⟨#[]⟩),.nils,c80] 3 5 .lock)])),
 (68,[c84],(.int .i64 1)),
 (57,[c85],(.tup [c86,(.vs [(.int .i64 0),(.int .i64 2),(.str ⟨#[]⟩),.nils,.nils] 1 5 .lock)])),
 (68,[c73],(.int .i64 1)),
 (68,[c85],(.int .i64 3)),
 (182,[c85],(.int .i64 2)),
 (57,[c87],(.tup [c86,(.vs [(.int .i64 0),(.int .i64 1),(.str ⟨#[]⟩),.nils,.nils] 1 5 .lock)])),
 (68,[c71],(.int .i64 1)),
 (68,[c87],(.int .i64 3)),
 (182,[c87],(.int .i64 2)),
 (68,[c82],(.int .i64 11)),
 (182,[(.agg [(.int .i64 4),(.int .i64 0),(.str ⟨#[]⟩),.nils,c78])],(.int .i64 2)),
 (56,[c82],.nils),
 (56,[c84],.nils)
]
noncomputable def t2:Tab:=l2++t1
noncomputable def ft2:FTab:=ft1
noncomputable def l3:Tab:=[
 (57,[c90],(.tup [c83,(.vs [(.int .i64 3),(.int .i64 0),(.str ⟨#[78]⟩),.nils,.nils,(.int .i64 0),(.int .i64 1),(.str ⟨#[]⟩),.nils,.nils,(.int .i64 0),(.int .i64 0),(.str ⟨#[]⟩),.nils,.nils] 3 5 .lock)])),
 (68,[c70],(.int .i64 1)),
 (68,[c90],(.int .i64 7)),
 (56,[c90],.nils),
 (53,[c69,(.str ⟨#[78]⟩)],(.tup [(.agg [(.int .i64 0),(.int .i64 5),(.int .i64 0),(.int .i64 0),(.int .i64 2),(.int .i64 0),(.str ⟨#[]⟩),c67,.nils]),(.int .i64 0)])),
 (240,[(.agg [(.int .i64 0),.nils])],(.int .i64 0)),
 (157,[.nils],(.tup [])),
 (255,[(.agg [(.int .i64 0),.nils])],c91),
 (104,[c69,c93],c94),
 (118,[c93,(.int .i64 0),(.int .i64 0)],c93),
 (61,[(.agg [(.int .i64 0),.nils]),(.agg [(.int .i64 0),.nils])],(.bool true)),
 (53,[c69,(.str ⟨#[115]⟩)],(.tup [(.agg [(.int .i64 0),(.int .i64 6),(.int .i64 0),(.int .i64 0),(.int .i64 6),(.int .i64 0),(.str ⟨#[]⟩),.nils,c68]),(.int .i64 0)])),
 (176,[c95,.nils],c96),
 (104,[c69,c95],c96),
 (118,[c84,(.int .i64 3),(.int .i64 0)],c84),
 (54,[c84,c84],(.bool true)),
 (118,[c84,(.int .i64 0),(.int .i64 0)],c84),
 (118,[c84,(.int .i64 2),(.int .i64 0)],c84),
 (118,[c95,(.int .i64 0),(.int .i64 0)],c95),
 (112,[c84,(.int .i64 0)],(.bool false)),
 (104,[c69,c73],c97),
 (66,[c69,c73],c97),
 (207,[c87],c87),
 (54,[c86,c86],(.bool true)),
 (104,[c69,c71],c98),
 (207,[c85],c85),
 (66,[c69,c71],c98),
 (118,[c90,(.int .i64 1),(.int .i64 0)],c99),
 (57,[c99],(.tup [(.agg [(.int .i64 3),(.int .i64 0),(.str ⟨#[69,113]⟩),c92,.nils]),(.vs [(.int .i64 3),(.int .i64 0),(.str ⟨#[78]⟩),.nils,.nils,(.int .i64 0),(.int .i64 2),(.str ⟨#[]⟩),.nils,.nils,(.int .i64 0),(.int .i64 1),(.str ⟨#[]⟩),.nils,.nils] 3 5 .lock)]))
]
noncomputable def t3:Tab:=l3++t2
noncomputable def ft3:FTab:=ft2
noncomputable def l4:Tab:=[
 (68,[c112],(.int .i64 31)),
 (68,[c86],(.int .i64 1)),
 (68,[c113],(.int .i64 9)),
 (182,[(.agg [(.int .i64 4),(.int .i64 0),(.str ⟨#[]⟩),.nils,c107])],(.int .i64 2)),
 (182,[(.agg [(.int .i64 4),(.int .i64 0),(.str ⟨#[]⟩),.nils,c100])],(.int .i64 2))
]
noncomputable def t4:Tab:=l4++t3
noncomputable def ft4:FTab:=ft3
noncomputable def l5:Tab:=[
 (56,[c120],.nils)
]
noncomputable def t5:Tab:=l5++t4
noncomputable def ft5:FTab:=ft4
noncomputable def l6:Tab:=[
 (9,[(.int .i64 2),c65,c66],(.tup [(.vs [(.int .i64 0),(.int .i64 1),(.int .i64 0),(.int .i64 0),(.int .i64 0)] 5 1 .tight),(.int .i64 0)])),
 (96,[c1,c1,(.fn (.func 97) [] [])],(.bool true)),
 (98,[c2,c2,(.fn (.func 54) [] [])],(.bool true)),
 (96,[c24,c24,(.fn (.func 97) [] [])],(.bool true)),
 (98,[c25,c25,(.fn (.func 54) [] [])],(.bool true)),
 (98,[c26,c26,(.fn (.func 54) [] [])],(.bool true)),
 (96,[c28,c28,(.fn (.func 97) [] [])],(.bool true)),
 (98,[c29,c29,(.fn (.func 54) [] [])],(.bool true)),
 (98,[c37,c37,(.fn (.func 54) [] [])],(.bool true)),
 (98,[c39,c39,(.fn (.func 54) [] [])],(.bool true)),
 (164,[c84],(.bool false)),
 (164,[c73],(.bool false)),
 (131,[c85,(.int .i64 0)],c85),
 (164,[c71],(.bool false)),
 (131,[c87,(.int .i64 0)],c87),
 (164,[c70],(.bool false)),
 (182,[(.agg [(.int .i64 4),(.int .i64 0),(.str ⟨#[]⟩),.nils,c88])],(.int .i64 3)),
 (210,[(.agg [(.int .i64 0),.nils]),.nils],c91),
 (107,[c93],c93),
 (228,[c69,(.str ⟨#[115]⟩),.nils],c96),
 (39,[c121,(.int .i64 2)],c122),
 (165,[c84,(.vs [(.int .i64 0),(.int .i64 2),(.str ⟨#[]⟩),.nils,.nils] 1 5 .tight),(.int .i64 0)],c122),
 (107,[c84],c84),
 (39,[c121,(.int .i64 1)],c122),
 (165,[c84,(.vs [(.int .i64 0),(.int .i64 1),(.str ⟨#[]⟩),.nils,.nils] 1 5 .tight),(.int .i64 0)],c122),
 (150,[c69,(.str ⟨#[115]⟩),.nils],c123),
 (107,[c95],c95),
 (150,[c69,(.str ⟨#[78]⟩),.nils],c123),
 (104,[c69,c86],c124),
 (104,[c69,c87],c125),
 (98,[c79,c80,(.fn (.func 54) [] [])],(.bool false)),
 (104,[c69,c85],c126),
 (111,[c69,c73,c71],c127),
 (104,[c69,c84],c122)
]
noncomputable def t6:Tab:=l6++t5
noncomputable def ft6:FTab:=ft5
noncomputable def l7:Tab:=[
 (121,[c120],.nils),
 (164,[c86],(.bool false)),
 (182,[(.agg [(.int .i64 4),(.int .i64 0),(.str ⟨#[]⟩),.nils,c108])],(.int .i64 3)),
 (182,[(.agg [(.int .i64 4),(.int .i64 0),(.str ⟨#[]⟩),.nils,c101])],(.int .i64 3)),
 (182,[(.agg [(.int .i64 4),(.int .i64 0),(.str ⟨#[]⟩),.nils,c114])],(.int .i64 3))
]
noncomputable def t7:Tab:=l7++t6
noncomputable def ft7:FTab:=ft6
noncomputable def l8:Tab:=[
 (54,[c128,c128],(.bool true)),
 (54,[c129,c129],(.bool true)),
 (54,[c130,c130],(.bool true)),
 (54,[c131,c131],(.bool true)),
 (54,[c132,c132],(.bool true)),
 (54,[c133,c133],(.bool true)),
 (54,[c134,c134],(.bool true)),
 (54,[c135,c135],(.bool true)),
 (54,[c136,c136],(.bool true)),
 (54,[c137,c137],(.bool true)),
 (54,[c138,c138],(.bool true)),
 (55,[c142,c84],c122),
 (182,[c90],(.int .i64 4)),
 (176,[c143,.nils],c94),
 (196,[c144,c121,c86],c95),
 (140,[c144,c121,c73],c84),
 (230,[c84,c73],c84),
 (140,[c144,c121,c71],c84),
 (230,[c84,c71],c84),
 (66,[c69,c85],c126),
 (66,[c69,c84],c122),
 (66,[c69,c86],c124),
 (66,[c69,c87],c125),
 (54,[c85,c87],(.bool false)),
 (182,[(.agg [(.int .i64 4),(.int .i64 0),(.str ⟨#[]⟩),.nils,c109])],(.int .i64 4)),
 (182,[(.agg [(.int .i64 4),(.int .i64 0),(.str ⟨#[]⟩),.nils,c102])],(.int .i64 4)),
 (182,[(.agg [(.int .i64 4),(.int .i64 0),(.str ⟨#[]⟩),.nils,c115])],(.int .i64 4))
]
noncomputable def t8:Tab:=l8++t7
noncomputable def fl8:FTab:=[
 {f:=130,n:=11,args:=[c82,(.ptr 8 0),(.ptr 3 0),(.ptr 10 0),(.ptr 9 0)],pre:=[(9,(.row 0 [c139])),(5,(.map [] 0)),(7,(.row 0 [(.map 5)])),(4,(.map [] 0)),(6,(.row 0 [(.map 4)])),(10,(.row 0 [c140])),(3,(.row 0 [c142])),(8,(.row 0 [(.int .i64 0)]))],v:=c82,wr:=[(8,(.row 0 [(.int .i64 6)]))],nw:=spar 46 0 [] },
 {f:=130,n:=165,args:=[c95,(.ptr 8 0),(.ptr 3 0),(.ptr 10 0),(.ptr 9 0)],pre:=[(9,(.row 0 [c139])),(5,(.map [] 0)),(7,(.row 0 [(.map 5)])),(4,(.map [] 0)),(6,(.row 0 [(.map 4)])),(10,(.row 0 [c140])),(3,(.row 0 [c142])),(8,(.row 0 [(.int .i64 23)]))],v:=(.agg [(.int .i64 6),(.int .i64 0),(.str ⟨#[]⟩),.nils,(.hs 168 0 2 2 5 true)]),wr:=[(8,(.row 0 [(.int .i64 26)]))],nw:=spar 40 0 [(3,(.row 0 [(.int .i64 3),(.int .i64 0),(.str ⟨#[78]⟩),.nils,.nils,(.int .i64 3),(.int .i64 0),(.str ⟨#[78]⟩),.nils,.nils]))] }
]
noncomputable def ft8:FTab:=fl8++ft7
noncomputable def l9:Tab:=[
 (98,[c3,c3,(.fn (.func 54) [] [])],(.bool true)),
 (98,[c6,c6,(.fn (.func 54) [] [])],(.bool true)),
 (98,[c12,c12,(.fn (.func 54) [] [])],(.bool true)),
 (98,[c15,c15,(.fn (.func 54) [] [])],(.bool true)),
 (98,[c30,c30,(.fn (.func 54) [] [])],(.bool true)),
 (98,[c33,c33,(.fn (.func 54) [] [])],(.bool true)),
 (98,[c36,c36,(.fn (.func 54) [] [])],(.bool true)),
 (98,[c52,c52,(.fn (.func 54) [] [])],(.bool true)),
 (98,[c55,c55,(.fn (.func 54) [] [])],(.bool true)),
 (34,[c145,c84],c122),
 (131,[c90,(.int .i64 0)],c90),
 (228,[c69,(.str ⟨#[78]⟩),.nils],c94),
 (140,[c144,c121,c86],c95),
 (111,[c69,c86,c73],c127),
 (111,[c69,c86,c87],c127),
 (111,[c69,c73,c87],c127),
 (111,[c69,c85,c87],c127),
 (111,[c69,c86,c71],c127),
 (111,[c69,c85,c71],c127)
]
noncomputable def t9:Tab:=l9++t8
noncomputable def ft9:FTab:=ft8
noncomputable def l10:Tab:=[
 (182,[c113],(.int .i64 5)),
 (182,[(.agg [(.int .i64 4),(.int .i64 0),(.str ⟨#[]⟩),.nils,c103])],(.int .i64 5))
]
noncomputable def t10:Tab:=l10++t9
noncomputable def fl10:FTab:=[
 {f:=130,n:=160,args:=[(.agg [(.int .i64 4),(.int .i64 0),(.str ⟨#[]⟩),.nils,c106]),(.ptr 8 0),(.ptr 3 0),(.ptr 10 0),(.ptr 9 0)],pre:=[(9,(.row 0 [c139])),(5,(.map [] 0)),(7,(.row 0 [(.map 5)])),(4,(.map [] 0)),(6,(.row 0 [(.map 4)])),(10,(.row 0 [c140])),(3,(.row 0 [c142])),(8,(.row 0 [(.int .i64 22)]))],v:=(.agg [(.int .i64 4),(.int .i64 0),(.str ⟨#[]⟩),.nils,(.hs 217 0 2 2 5 true)]),wr:=[(8,(.row 0 [(.int .i64 27)]))],nw:=spar 91 0 [(8,(.row 0 [(.int .i64 3),(.int .i64 0),(.str ⟨#[78]⟩),.nils,.nils,(.int .i64 3),(.int .i64 0),(.str ⟨#[78]⟩),.nils,.nils])),(55,(.row 0 [(.int .i64 3),(.int .i64 0),(.str ⟨#[69,113,46,114,101,102,108]⟩),c67,.nils,(.int .i64 6),(.int .i64 0),(.str ⟨#[]⟩),.nils,(.hs 168 0 2 2 5 true)])),(57,(.row 0 [(.int .i64 4),(.int .i64 0),(.str ⟨#[]⟩),.nils,(.hs 215 0 2 2 5 true),(.int .i64 3),(.int .i64 0),(.str ⟨#[115]⟩),.nils,.nils]))] }
]
noncomputable def ft10:FTab:=fl10++ft9
noncomputable def l11:Tab:=[
 (54,[c146,c146],(.bool true)),
 (54,[c147,c147],(.bool true)),
 (54,[c148,c148],(.bool true)),
 (54,[c149,c149],(.bool true)),
 (54,[c150,c150],(.bool true)),
 (54,[c151,c151],(.bool true)),
 (54,[c152,c152],(.bool true)),
 (54,[c153,c153],(.bool true)),
 (54,[c154,c154],(.bool true)),
 (196,[c144,c121,c84],c93),
 (197,[c144,c121,c85],c84),
 (197,[c144,c121,c87],c84),
 (196,[c144,c155,c84],c93),
 (182,[(.agg [(.int .i64 4),(.int .i64 0),(.str ⟨#[]⟩),.nils,c104])],(.int .i64 6))
]
noncomputable def t11:Tab:=l11++t10
noncomputable def fl11:FTab:=[
 {f:=130,n:=11,args:=[c90,(.ptr 8 0),(.ptr 3 0),(.ptr 10 0),(.ptr 9 0)],pre:=[(9,(.row 0 [c139])),(5,(.map [] 0)),(7,(.row 0 [(.map 5)])),(4,(.map [] 0)),(6,(.row 0 [(.map 4)])),(10,(.row 0 [c140])),(3,(.row 0 [c142])),(8,(.row 0 [(.int .i64 0)]))],v:=c90,wr:=[(8,(.row 0 [(.int .i64 4)]))],nw:=spar 30 0 [] },
 {f:=130,n:=40,args:=[c90,(.ptr 8 0),(.ptr 3 0),(.ptr 10 0),(.ptr 9 0)],pre:=[(9,(.row 0 [c139])),(5,(.map [] 0)),(7,(.row 0 [(.map 5)])),(4,(.map [] 0)),(6,(.row 0 [(.map 4)])),(10,(.row 0 [c140])),(3,(.row 0 [c142])),(8,(.row 0 [(.int .i64 5)]))],v:=c90,wr:=[(8,(.row 0 [(.int .i64 9)]))],nw:=spar 30 0 [] },
 {f:=130,n:=252,args:=[c113,(.ptr 8 0),(.ptr 3 0),(.ptr 10 0),(.ptr 9 0)],pre:=[(9,(.row 0 [c139])),(5,(.map [] 0)),(7,(.row 0 [(.map 5)])),(4,(.map [] 0)),(6,(.row 0 [(.map 4)])),(10,(.row 0 [c140])),(3,(.row 0 [c142])),(8,(.row 0 [(.int .i64 27)]))],v:=c113,wr:=[(8,(.row 0 [(.int .i64 32)]))],nw:=spar 38 0 [] }
]
noncomputable def ft11:FTab:=fl11++ft10
noncomputable def l12:Tab:=[
 (98,[c4,c4,(.fn (.func 54) [] [])],(.bool true)),
 (98,[c7,c7,(.fn (.func 54) [] [])],(.bool true)),
 (98,[c13,c13,(.fn (.func 54) [] [])],(.bool true)),
 (98,[c16,c16,(.fn (.func 54) [] [])],(.bool true)),
 (98,[c31,c31,(.fn (.func 54) [] [])],(.bool true)),
 (98,[c34,c34,(.fn (.func 54) [] [])],(.bool true)),
 (98,[c38,c38,(.fn (.func 54) [] [])],(.bool true)),
 (98,[c50,c50,(.fn (.func 54) [] [])],(.bool true)),
 (98,[c53,c53,(.fn (.func 54) [] [])],(.bool true)),
 (98,[c56,c56,(.fn (.func 54) [] [])],(.bool true)),
 (140,[c144,c121,c84],c93),
 (140,[c144,c121,c85],c84),
 (140,[c144,c121,c87],c84),
 (140,[c144,c155,c84],c93),
 (182,[(.agg [(.int .i64 4),(.int .i64 0),(.str ⟨#[]⟩),.nils,c105])],(.int .i64 7))
]
noncomputable def t12:Tab:=l12++t11
noncomputable def ft12:FTab:=ft11
noncomputable def l13:Tab:=[
 (54,[c5,c5],(.bool true)),
 (54,[c156,c156],(.bool true)),
 (54,[c157,c157],(.bool true)),
 (54,[c158,c158],(.bool true)),
 (54,[c159,c159],(.bool true)),
 (54,[c160,c160],(.bool true)),
 (54,[c161,c161],(.bool true)),
 (54,[c162,c162],(.bool true)),
 (54,[c163,c163],(.bool true)),
 (54,[c164,c164],(.bool true)),
 (108,[c144,c121,c84],c93),
 (108,[c144,c155,c84],c93)
]
noncomputable def t13:Tab:=l13++t12
noncomputable def fl13:FTab:=[
 {f:=130,n:=113,args:=[c112,(.ptr 8 0),(.ptr 3 0),(.ptr 10 0),(.ptr 9 0)],pre:=[(9,(.row 0 [c139])),(5,(.map [] 0)),(7,(.row 0 [(.map 5)])),(4,(.map [] 0)),(6,(.row 0 [(.map 4)])),(10,(.row 0 [c140])),(3,(.row 0 [c142])),(8,(.row 0 [(.int .i64 15)]))],v:=(.agg [(.int .i64 4),(.int .i64 0),(.str ⟨#[]⟩),.nils,(.hs 301 0 2 2 5 true)]),wr:=[(8,(.row 0 [(.int .i64 32)]))],nw:=spar 276 0 [(55,(.row 0 [(.int .i64 3),(.int .i64 0),(.str ⟨#[78]⟩),.nils,.nils,(.int .i64 3),(.int .i64 0),(.str ⟨#[78]⟩),.nils,.nils])),(102,(.row 0 [(.int .i64 3),(.int .i64 0),(.str ⟨#[69,113,46,114,101,102,108]⟩),c67,.nils,(.int .i64 6),(.int .i64 0),(.str ⟨#[]⟩),.nils,(.hs 168 0 2 2 5 true)])),(104,(.row 0 [(.int .i64 4),(.int .i64 0),(.str ⟨#[]⟩),.nils,(.hs 215 0 2 2 5 true),(.int .i64 3),(.int .i64 0),(.str ⟨#[115]⟩),.nils,.nils])),(186,(.row 0 [(.int .i64 4),(.int .i64 0),(.str ⟨#[]⟩),.nils,c105,(.int .i64 4),(.int .i64 0),(.str ⟨#[]⟩),.nils,(.hs 217 0 2 2 5 true)])),(188,(.row 0 [(.int .i64 4),(.int .i64 0),(.str ⟨#[]⟩),.nils,(.hs 299 0 2 2 5 true),(.int .i64 4),(.int .i64 0),(.str ⟨#[]⟩),.nils,c110]))] }
]
noncomputable def ft13:FTab:=fl13++ft12
noncomputable def l14:Tab:=[
 (98,[c8,c8,(.fn (.func 54) [] [])],(.bool true)),
 (98,[c14,c14,(.fn (.func 54) [] [])],(.bool true)),
 (98,[c17,c17,(.fn (.func 54) [] [])],(.bool true)),
 (98,[c32,c32,(.fn (.func 54) [] [])],(.bool true)),
 (98,[c35,c35,(.fn (.func 54) [] [])],(.bool true)),
 (98,[c40,c40,(.fn (.func 54) [] [])],(.bool true)),
 (98,[c51,c51,(.fn (.func 54) [] [])],(.bool true)),
 (98,[c54,c54,(.fn (.func 54) [] [])],(.bool true)),
 (98,[c57,c57,(.fn (.func 54) [] [])],(.bool true)),
 (108,[c144,c121,c95],c143)
]
noncomputable def t14:Tab:=l14++t13
noncomputable def fl14:FTab:=[
 {f:=130,n:=71,args:=[(.agg [(.int .i64 4),(.int .i64 0),(.str ⟨#[]⟩),.nils,c116]),(.ptr 8 0),(.ptr 3 0),(.ptr 10 0),(.ptr 9 0)],pre:=[(9,(.row 0 [c139])),(5,(.map [] 0)),(7,(.row 0 [(.map 5)])),(4,(.map [] 0)),(6,(.row 0 [(.map 4)])),(10,(.row 0 [c140])),(3,(.row 0 [c142])),(8,(.row 0 [(.int .i64 9)]))],v:=(.agg [(.int .i64 4),(.int .i64 0),(.str ⟨#[]⟩),.nils,(.hs 395 0 2 2 5 true)]),wr:=[(8,(.row 0 [(.int .i64 32)]))],nw:=spar 439 0 [(97,(.row 0 [(.int .i64 3),(.int .i64 0),(.str ⟨#[78]⟩),.nils,.nils,(.int .i64 3),(.int .i64 0),(.str ⟨#[78]⟩),.nils,.nils])),(144,(.row 0 [(.int .i64 3),(.int .i64 0),(.str ⟨#[69,113,46,114,101,102,108]⟩),c67,.nils,(.int .i64 6),(.int .i64 0),(.str ⟨#[]⟩),.nils,(.hs 168 0 2 2 5 true)])),(146,(.row 0 [(.int .i64 4),(.int .i64 0),(.str ⟨#[]⟩),.nils,(.hs 215 0 2 2 5 true),(.int .i64 3),(.int .i64 0),(.str ⟨#[115]⟩),.nils,.nils])),(228,(.row 0 [(.int .i64 4),(.int .i64 0),(.str ⟨#[]⟩),.nils,c105,(.int .i64 4),(.int .i64 0),(.str ⟨#[]⟩),.nils,(.hs 217 0 2 2 5 true)])),(230,(.row 0 [(.int .i64 4),(.int .i64 0),(.str ⟨#[]⟩),.nils,(.hs 299 0 2 2 5 true),(.int .i64 4),(.int .i64 0),(.str ⟨#[]⟩),.nils,c110])),(324,(.row 0 [(.int .i64 4),(.int .i64 0),(.str ⟨#[]⟩),.nils,c115,(.int .i64 4),(.int .i64 0),(.str ⟨#[]⟩),.nils,(.hs 301 0 2 2 5 true)]))] }
]
noncomputable def ft14:FTab:=fl14++ft13
noncomputable def l15:Tab:=[
 (54,[c165,c165],(.bool true)),
 (54,[c166,c166],(.bool true)),
 (54,[c167,c167],(.bool true)),
 (54,[c168,c168],(.bool true)),
 (54,[c169,c169],(.bool true)),
 (54,[c170,c170],(.bool true)),
 (54,[c171,c171],(.bool true)),
 (54,[c172,c172],(.bool true)),
 (54,[c173,c173],(.bool true))
]
noncomputable def t15:Tab:=l15++t14
noncomputable def fl15:FTab:=[
 {f:=130,n:=35,args:=[(.agg [(.int .i64 5),(.int .i64 0),(.str ⟨#[]⟩),.nils,c117]),(.ptr 8 0),(.ptr 3 0),(.ptr 10 0),(.ptr 9 0)],pre:=[(9,(.row 0 [c139])),(5,(.map [] 0)),(7,(.row 0 [(.map 5)])),(4,(.map [] 0)),(6,(.row 0 [(.map 4)])),(10,(.row 0 [c140])),(3,(.row 0 [c142])),(8,(.row 0 [(.int .i64 4)]))],v:=(.agg [(.int .i64 5),(.int .i64 0),(.str ⟨#[]⟩),.nils,(.hs 38 0 2 2 5 true)]),wr:=[(8,(.row 0 [(.int .i64 32)]))],nw:=spar 611 0 [(3,(.row 0 [(.int .i64 4),(.int .i64 0),(.str ⟨#[]⟩),.nils,c89,(.int .i64 4),(.int .i64 0),(.str ⟨#[]⟩),.nils,(.hs 395 0 2 2 5 true)])),(133,(.row 0 [(.int .i64 3),(.int .i64 0),(.str ⟨#[78]⟩),.nils,.nils,(.int .i64 3),(.int .i64 0),(.str ⟨#[78]⟩),.nils,.nils])),(180,(.row 0 [(.int .i64 3),(.int .i64 0),(.str ⟨#[69,113,46,114,101,102,108]⟩),c67,.nils,(.int .i64 6),(.int .i64 0),(.str ⟨#[]⟩),.nils,(.hs 168 0 2 2 5 true)])),(182,(.row 0 [(.int .i64 4),(.int .i64 0),(.str ⟨#[]⟩),.nils,(.hs 215 0 2 2 5 true),(.int .i64 3),(.int .i64 0),(.str ⟨#[115]⟩),.nils,.nils])),(264,(.row 0 [(.int .i64 4),(.int .i64 0),(.str ⟨#[]⟩),.nils,c105,(.int .i64 4),(.int .i64 0),(.str ⟨#[]⟩),.nils,(.hs 217 0 2 2 5 true)])),(266,(.row 0 [(.int .i64 4),(.int .i64 0),(.str ⟨#[]⟩),.nils,(.hs 299 0 2 2 5 true),(.int .i64 4),(.int .i64 0),(.str ⟨#[]⟩),.nils,c110])),(360,(.row 0 [(.int .i64 4),(.int .i64 0),(.str ⟨#[]⟩),.nils,c115,(.int .i64 4),(.int .i64 0),(.str ⟨#[]⟩),.nils,(.hs 301 0 2 2 5 true)]))] }
]
noncomputable def ft15:FTab:=fl15++ft14
noncomputable def l16:Tab:=[
 (98,[c9,c9,(.fn (.func 54) [] [])],(.bool true)),
 (98,[c18,c18,(.fn (.func 54) [] [])],(.bool true)),
 (98,[c41,c41,(.fn (.func 54) [] [])],(.bool true)),
 (98,[c58,c58,(.fn (.func 54) [] [])],(.bool true))
]
noncomputable def t16:Tab:=l16++t15
noncomputable def fl16:FTab:=[
 {f:=130,n:=23,args:=[(.agg [(.int .i64 5),(.int .i64 0),(.str ⟨#[]⟩),.nils,c118]),(.ptr 8 0),(.ptr 3 0),(.ptr 10 0),(.ptr 9 0)],pre:=[(9,(.row 0 [c139])),(5,(.map [] 0)),(7,(.row 0 [(.map 5)])),(4,(.map [] 0)),(6,(.row 0 [(.map 4)])),(10,(.row 0 [c140])),(3,(.row 0 [c142])),(8,(.row 0 [(.int .i64 2)]))],v:=(.agg [(.int .i64 5),(.int .i64 0),(.str ⟨#[]⟩),.nils,(.hs 26 0 2 2 5 true)]),wr:=[(8,(.row 0 [(.int .i64 32)]))],nw:=spar 766 0 [(3,(.row 0 [(.int .i64 3),(.int .i64 0),(.str ⟨#[78]⟩),.nils,.nils,(.int .i64 5),(.int .i64 0),(.str ⟨#[]⟩),.nils,(.hs 38 0 2 2 5 true)])),(15,(.row 0 [(.int .i64 4),(.int .i64 0),(.str ⟨#[]⟩),.nils,c89,(.int .i64 4),(.int .i64 0),(.str ⟨#[]⟩),.nils,(.hs 395 0 2 2 5 true)])),(145,(.row 0 [(.int .i64 3),(.int .i64 0),(.str ⟨#[78]⟩),.nils,.nils,(.int .i64 3),(.int .i64 0),(.str ⟨#[78]⟩),.nils,.nils])),(192,(.row 0 [(.int .i64 3),(.int .i64 0),(.str ⟨#[69,113,46,114,101,102,108]⟩),c67,.nils,(.int .i64 6),(.int .i64 0),(.str ⟨#[]⟩),.nils,(.hs 168 0 2 2 5 true)])),(194,(.row 0 [(.int .i64 4),(.int .i64 0),(.str ⟨#[]⟩),.nils,(.hs 215 0 2 2 5 true),(.int .i64 3),(.int .i64 0),(.str ⟨#[115]⟩),.nils,.nils])),(276,(.row 0 [(.int .i64 4),(.int .i64 0),(.str ⟨#[]⟩),.nils,c105,(.int .i64 4),(.int .i64 0),(.str ⟨#[]⟩),.nils,(.hs 217 0 2 2 5 true)])),(278,(.row 0 [(.int .i64 4),(.int .i64 0),(.str ⟨#[]⟩),.nils,(.hs 299 0 2 2 5 true),(.int .i64 4),(.int .i64 0),(.str ⟨#[]⟩),.nils,c110])),(372,(.row 0 [(.int .i64 4),(.int .i64 0),(.str ⟨#[]⟩),.nils,c115,(.int .i64 4),(.int .i64 0),(.str ⟨#[]⟩),.nils,(.hs 301 0 2 2 5 true)]))] }
]
noncomputable def ft16:FTab:=fl16++ft15
noncomputable def l17:Tab:=[
 (54,[c174,c174],(.bool true)),
 (54,[c175,c175],(.bool true)),
 (54,[c176,c176],(.bool true)),
 (54,[c177,c177],(.bool true))
]
noncomputable def t17:Tab:=l17++t16
noncomputable def fl17:FTab:=[
 {f:=130,n:=11,args:=[c120,(.ptr 8 0),(.ptr 3 0),(.ptr 10 0),(.ptr 9 0)],pre:=[(9,(.row 0 [c139])),(5,(.map [] 0)),(7,(.row 0 [(.map 5)])),(4,(.map [] 0)),(6,(.row 0 [(.map 4)])),(10,(.row 0 [c140])),(3,(.row 0 [c142])),(8,(.row 0 [(.int .i64 0)]))],v:=(.agg [(.int .i64 5),(.int .i64 0),(.str ⟨#[]⟩),.nils,(.hs 14 0 2 2 5 true)]),wr:=[(8,(.row 0 [(.int .i64 32)]))],nw:=spar 928 0 [(3,(.row 0 [(.int .i64 3),(.int .i64 0),(.str ⟨#[78]⟩),.nils,.nils,(.int .i64 5),(.int .i64 0),(.str ⟨#[]⟩),.nils,(.hs 26 0 2 2 5 true)])),(15,(.row 0 [(.int .i64 3),(.int .i64 0),(.str ⟨#[78]⟩),.nils,.nils,(.int .i64 5),(.int .i64 0),(.str ⟨#[]⟩),.nils,(.hs 38 0 2 2 5 true)])),(27,(.row 0 [(.int .i64 4),(.int .i64 0),(.str ⟨#[]⟩),.nils,c89,(.int .i64 4),(.int .i64 0),(.str ⟨#[]⟩),.nils,(.hs 395 0 2 2 5 true)])),(157,(.row 0 [(.int .i64 3),(.int .i64 0),(.str ⟨#[78]⟩),.nils,.nils,(.int .i64 3),(.int .i64 0),(.str ⟨#[78]⟩),.nils,.nils])),(204,(.row 0 [(.int .i64 3),(.int .i64 0),(.str ⟨#[69,113,46,114,101,102,108]⟩),c67,.nils,(.int .i64 6),(.int .i64 0),(.str ⟨#[]⟩),.nils,(.hs 168 0 2 2 5 true)])),(206,(.row 0 [(.int .i64 4),(.int .i64 0),(.str ⟨#[]⟩),.nils,(.hs 215 0 2 2 5 true),(.int .i64 3),(.int .i64 0),(.str ⟨#[115]⟩),.nils,.nils])),(288,(.row 0 [(.int .i64 4),(.int .i64 0),(.str ⟨#[]⟩),.nils,c105,(.int .i64 4),(.int .i64 0),(.str ⟨#[]⟩),.nils,(.hs 217 0 2 2 5 true)])),(290,(.row 0 [(.int .i64 4),(.int .i64 0),(.str ⟨#[]⟩),.nils,(.hs 299 0 2 2 5 true),(.int .i64 4),(.int .i64 0),(.str ⟨#[]⟩),.nils,c110])),(384,(.row 0 [(.int .i64 4),(.int .i64 0),(.str ⟨#[]⟩),.nils,c115,(.int .i64 4),(.int .i64 0),(.str ⟨#[]⟩),.nils,(.hs 301 0 2 2 5 true)]))] }
]
noncomputable def ft17:FTab:=fl17++ft16
noncomputable def l18:Tab:=[
 (98,[c10,c10,(.fn (.func 54) [] [])],(.bool true)),
 (98,[c19,c19,(.fn (.func 54) [] [])],(.bool true)),
 (98,[c42,c42,(.fn (.func 54) [] [])],(.bool true)),
 (98,[c59,c59,(.fn (.func 54) [] [])],(.bool true))
]
noncomputable def t18:Tab:=l18++t17
noncomputable def ft18:FTab:=ft17
noncomputable def l19:Tab:=[
 (54,[c11,c11],(.bool true)),
 (54,[c178,c178],(.bool true)),
 (54,[c179,c179],(.bool true)),
 (54,[c180,c180],(.bool true))
]
noncomputable def t19:Tab:=l19++t18
noncomputable def ft19:FTab:=ft18
noncomputable def l20:Tab:=[
 (98,[c20,c20,(.fn (.func 54) [] [])],(.bool true)),
 (98,[c43,c43,(.fn (.func 54) [] [])],(.bool true)),
 (98,[c60,c60,(.fn (.func 54) [] [])],(.bool true))
]
noncomputable def t20:Tab:=l20++t19
noncomputable def ft20:FTab:=ft19
noncomputable def l21:Tab:=[
 (54,[c181,c181],(.bool true)),
 (54,[c182,c182],(.bool true)),
 (54,[c183,c183],(.bool true))
]
noncomputable def t21:Tab:=l21++t20
noncomputable def ft21:FTab:=ft20
noncomputable def l22:Tab:=[
 (98,[c21,c21,(.fn (.func 54) [] [])],(.bool true)),
 (98,[c44,c44,(.fn (.func 54) [] [])],(.bool true)),
 (98,[c61,c61,(.fn (.func 54) [] [])],(.bool true))
]
noncomputable def t22:Tab:=l22++t21
noncomputable def ft22:FTab:=ft21
noncomputable def l23:Tab:=[
 (54,[c22,c22],(.bool true)),
 (54,[c184,c184],(.bool true)),
 (54,[c185,c185],(.bool true))
]
noncomputable def t23:Tab:=l23++t22
noncomputable def ft23:FTab:=ft22
noncomputable def l24:Tab:=[
 (98,[c45,c45,(.fn (.func 54) [] [])],(.bool true)),
 (98,[c62,c62,(.fn (.func 54) [] [])],(.bool true))
]
noncomputable def t24:Tab:=l24++t23
noncomputable def ft24:FTab:=ft23
noncomputable def l25:Tab:=[
 (54,[c186,c186],(.bool true)),
 (54,[c187,c187],(.bool true))
]
noncomputable def t25:Tab:=l25++t24
noncomputable def ft25:FTab:=ft24
noncomputable def l26:Tab:=[
 (98,[c46,c46,(.fn (.func 54) [] [])],(.bool true)),
 (98,[c63,c63,(.fn (.func 54) [] [])],(.bool true))
]
noncomputable def t26:Tab:=l26++t25
noncomputable def ft26:FTab:=ft25
noncomputable def l27:Tab:=[
 (54,[c188,c188],(.bool true)),
 (54,[c64,c64],(.bool true))
]
noncomputable def t27:Tab:=l27++t26
noncomputable def ft27:FTab:=ft26
noncomputable def l28:Tab:=[
 (98,[c47,c47,(.fn (.func 54) [] [])],(.bool true))
]
noncomputable def t28:Tab:=l28++t27
noncomputable def ft28:FTab:=ft27
noncomputable def l29:Tab:=[
 (54,[c189,c189],(.bool true))
]
noncomputable def t29:Tab:=l29++t28
noncomputable def ft29:FTab:=ft28
noncomputable def l30:Tab:=[
 (98,[c48,c48,(.fn (.func 54) [] [])],(.bool true))
]
noncomputable def t30:Tab:=l30++t29
noncomputable def ft30:FTab:=ft29
noncomputable def l31:Tab:=[
 (54,[c49,c49],(.bool true))
]
noncomputable def t31:Tab:=l31++t30
noncomputable def ft31:FTab:=ft30
noncomputable def l32:Tab:=[
 (33,[c69],(.bool true))
]
noncomputable def t32:Tab:=l32++t31
noncomputable def ft32:FTab:=ft31
noncomputable def l33:Tab:=[
 (19,[(.agg [c69,.nils,.nils,.nils,.nils,.nils,.nils]),c145],(.tup [(.agg [.nils,(.vs [(.int .i64 6),(.int .i64 0),(.str ⟨#[]⟩),.nils,c141,(.bool true),(.int .i64 5),(.int .i64 0),(.str ⟨#[]⟩),.nils,c119,(.bool false)] 1 12 .lock),.nils,.nils,(.int .i64 0),(.vs [] 0 8 .tight),(.int .i64 6),(.int .i64 0),(.str ⟨#[]⟩),.nils,c141,(.int .i64 12),(.int .i64 0),(.str ⟨#[]⟩),.nils,.nils]),(.int .i64 0)]))
]
noncomputable def t33:Tab:=l33++t32
noncomputable def ft33:FTab:=ft32
noncomputable def l34:Tab:=[
 (8,[],(.bool true))
]
noncomputable def t34:Tab:=l34++t33
end Go.Proofs.YtdlaladdeelegaaGreat.Tb
