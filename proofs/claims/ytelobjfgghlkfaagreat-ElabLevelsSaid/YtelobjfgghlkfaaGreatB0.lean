/- Values that come again and again; hints. -/
import Derived.Test.YtelobjfgghlkfaaGreatA7
import Derived.Test.YtelobjfgghlkfaaGreatProg
import Derived.KernelRfl
set_option linter.all false
noncomputable section
namespace Go.Proofs.YtelobjfgghlkfaaGreat.Tb
open Go Go.Ae
noncomputable def hint : Hint where
  heap f := Nat.beq f 141 || Nat.beq f 47 || Nat.beq f 104 || Nat.beq f 14
  rows f d := match d with
    | some d => (Nat.beq f 141 && Nat.beq d 29) || (Nat.beq f 47 && Nat.beq d 7) || (Nat.beq f 157 && Nat.beq d 20) || (Nat.beq f 89 && Nat.beq d 13)
    | none => false
  fix f r := []
noncomputable def idl : List FuncId := [102, 135, 165, 182, 193, 21, 336, 340, 92]
noncomputable def c0 : V := (.vs [(.int .i64 0), .nils] 1 2 .tight)
noncomputable def c1 : V := (.vs [(.int .i64 0), (.int .i64 0)] 1 2 .tight)
noncomputable def c2 : V := (.vs [(.int .i64 0), c1] 1 2 .tight)
noncomputable def c3 : V := (.vs [(.int .i64 2), (.int .i64 0), (.str ⟨#[]⟩), c2, .nils, (.int .i64 2), (.int .i64 0), (.str ⟨#[]⟩), c2, .nils] 2 5 .tight)
noncomputable def c4 : V := (.vs [(.int .i64 2), (.int .i64 0), (.str ⟨#[]⟩), c2, .nils, (.int .i64 4), (.int .i64 0), (.str ⟨#[]⟩), .nils, (.vs [(.int .i64 3), (.int .i64 0), (.str ⟨#[76,105,115,116]⟩), c2, .nils, (.int .i64 0), (.int .i64 0), (.str ⟨#[]⟩), .nils, .nils] 2 5 .tight)] 2 5 .tight)
noncomputable def c5 : V := (.vs [(.int .i64 2), (.int .i64 0), (.str ⟨#[]⟩), c2, .nils, (.int .i64 6), (.int .i64 0), (.str ⟨#[]⟩), .nils, (.vs [(.int .i64 0), (.int .i64 0), (.str ⟨#[]⟩), .nils, .nils, (.int .i64 6), (.int .i64 0), (.str ⟨#[]⟩), .nils, (.vs [(.int .i64 4), (.int .i64 0), (.str ⟨#[]⟩), .nils, (.vs [(.int .i64 3), (.int .i64 0), (.str ⟨#[76,105,115,116]⟩), c2, .nils, (.int .i64 0), (.int .i64 1), (.str ⟨#[]⟩), .nils, .nils] 2 5 .tight), (.int .i64 4), (.int .i64 0), (.str ⟨#[]⟩), .nils, (.vs [(.int .i64 3), (.int .i64 0), (.str ⟨#[76,105,115,116]⟩), c2, .nils, (.int .i64 0), (.int .i64 2), (.str ⟨#[]⟩), .nils, .nils] 2 5 .tight)] 2 5 .tight)] 2 5 .tight)] 2 5 .tight)
noncomputable def c6 : V := (.vs [(.int .i64 0), (.str ⟨#[78,97,116]⟩), (.int .i64 0), (.int .i64 2), (.int .i64 0), (.str ⟨#[]⟩), c0, .nils, (.int .i64 0), (.int .i64 0), (.str ⟨#[]⟩), .nils, .nils, (.int .i64 0), .nils, (.int .i64 0), (.int .i64 0), (.int .i64 0), (.str ⟨#[]⟩), .nils, .nils, .nils, .nils, (.int .i64 0), (.str ⟨#[78,97,116,46,122,101,114,111]⟩), (.int .i64 0), (.int .i64 3), (.int .i64 0), (.str ⟨#[78,97,116]⟩), .nils, .nils, (.int .i64 0), (.int .i64 0), (.str ⟨#[]⟩), .nils, .nils, (.int .i64 0), .nils, (.int .i64 0), (.int .i64 0), (.int .i64 0), (.str ⟨#[]⟩), .nils, .nils, .nils, .nils, (.int .i64 0), (.str ⟨#[78,97,116,46,115,117,99,99]⟩), (.int .i64 0), (.int .i64 6), (.int .i64 0), (.str ⟨#[]⟩), .nils, (.vs [(.int .i64 3), (.int .i64 0), (.str ⟨#[78,97,116]⟩), .nils, .nils, (.int .i64 3), (.int .i64 0), (.str ⟨#[78,97,116]⟩), .nils, .nils] 2 5 .tight), (.int .i64 0), (.int .i64 0), (.str ⟨#[]⟩), .nils, .nils, (.int .i64 0), .nils, (.int .i64 0), (.int .i64 0), (.int .i64 0), (.str ⟨#[]⟩), .nils, .nils, .nils, .nils, (.int .i64 0), (.str ⟨#[69,113]⟩), (.int .i64 1), (.int .i64 6), (.int .i64 0), (.str ⟨#[]⟩), .nils, (.vs [(.int .i64 2), (.int .i64 0), (.str ⟨#[]⟩), c2, .nils, (.int .i64 6), (.int .i64 0), (.str ⟨#[]⟩), .nils, (.vs [(.int .i64 0), (.int .i64 0), (.str ⟨#[]⟩), .nils, .nils, (.int .i64 6), (.int .i64 0), (.str ⟨#[]⟩), .nils, (.vs [(.int .i64 0), (.int .i64 1), (.str ⟨#[]⟩), .nils, .nils, (.int .i64 1), (.int .i64 0), (.str ⟨#[]⟩), .nils, .nils] 2 5 .tight)] 2 5 .tight)] 2 5 .tight), (.int .i64 0), (.int .i64 0), (.str ⟨#[]⟩), .nils, .nils, (.int .i64 0), .nils, (.int .i64 0), (.int .i64 0), (.int .i64 0), (.str ⟨#[]⟩), .nils, .nils, .nils, .nils, (.int .i64 0), (.str ⟨#[76,105,115,116]⟩), (.int .i64 1), (.int .i64 6), (.int .i64 0), (.str ⟨#[]⟩), .nils, c3, (.int .i64 0), (.int .i64 0), (.str ⟨#[]⟩), .nils, .nils, (.int .i64 0), .nils, (.int .i64 0), (.int .i64 0), (.int .i64 0), (.str ⟨#[]⟩), .nils, .nils, .nils, .nils, (.int .i64 0), (.str ⟨#[76,105,115,116,46,110,105,108]⟩), (.int .i64 1), (.int .i64 6), (.int .i64 0), (.str ⟨#[]⟩), .nils, c4, (.int .i64 0), (.int .i64 0), (.str ⟨#[]⟩), .nils, .nils, (.int .i64 0), .nils, (.int .i64 0), (.int .i64 0), (.int .i64 0), (.str ⟨#[]⟩), .nils, .nils, .nils, .nils, (.int .i64 0), (.str ⟨#[76,105,115,116,46,99,111,110,115]⟩), (.int .i64 1), (.int .i64 6), (.int .i64 0), (.str ⟨#[]⟩), .nils, c5, (.int .i64 0), (.int .i64 0), (.str ⟨#[]⟩), .nils, .nils, (.int .i64 0), .nils, (.int .i64 0), (.int .i64 0), (.int .i64 0), (.str ⟨#[]⟩), .nils, .nils, .nils, .nils, (.int .i64 1), (.str ⟨#[105,100]⟩), (.int .i64 1), (.int .i64 6), (.int .i64 0), (.str ⟨#[]⟩), .nils, (.vs [(.int .i64 2), (.int .i64 0), (.str ⟨#[]⟩), c2, .nils, (.int .i64 6), (.int .i64 0), (.str ⟨#[]⟩), .nils, (.vs [(.int .i64 0), (.int .i64 0), (.str ⟨#[]⟩), .nils, .nils, (.int .i64 0), (.int .i64 1), (.str ⟨#[]⟩), .nils, .nils] 2 5 .tight)] 2 5 .tight), (.int .i64 5), (.int .i64 0), (.str ⟨#[]⟩), .nils, (.vs [(.int .i64 2), (.int .i64 0), (.str ⟨#[]⟩), c2, .nils, (.int .i64 5), (.int .i64 0), (.str ⟨#[]⟩), .nils, (.vs [(.int .i64 0), (.int .i64 0), (.str ⟨#[]⟩), .nils, .nils, (.int .i64 0), (.int .i64 0), (.str ⟨#[]⟩), .nils, .nils] 2 5 .tight)] 2 5 .tight), (.int .i64 0), .nils, (.int .i64 0), (.int .i64 0), (.int .i64 0), (.str ⟨#[]⟩), .nils, .nils, .nils, .nils] 8 23 .tight)
noncomputable def c7 : V := (.vs [(.int .i64 1)] 1 1 .tight)
noncomputable def c8 : V := (.agg [c6, (.vs [(.str ⟨#[69,113]⟩), c7, (.str ⟨#[76,105,115,116,46,110,105,108]⟩), c7, (.str ⟨#[76,105,115,116,46,99,111,110,115]⟩), c7, (.str ⟨#[105,100]⟩), c7] 4 2 .tight), .nils, .nils, .nils, .nils, .nils])
noncomputable def c9 : V := (.agg [(.int .i64 0), c1])
noncomputable def c10 : V := (.vs [(.int .i64 (-1)), (.int .i64 0)] 1 2 .tight)
noncomputable def c11 : V := (.vs [(.int .i64 (-1)), (.int .i64 0)] 1 2 .lock)
noncomputable def c12 : V := (.agg [(.int .i64 0), c11])
noncomputable def c13 : V := (.vs [(.int .i64 0), c11] 1 2 .lock)
noncomputable def c14 : V := (.agg [(.int .i64 2), (.int .i64 0), (.str ⟨#[]⟩), c13, .nils])
noncomputable def c15 : V := (.agg [(.int .i64 0), (.int .i64 0), (.str ⟨#[]⟩), .nils, .nils])
noncomputable def c16 : V := (.vs [(.int .i64 3), (.int .i64 0), (.str ⟨#[76,105,115,116]⟩), c13, .nils, (.int .i64 0), (.int .i64 1), (.str ⟨#[]⟩), .nils, .nils] 2 5 .tight)
noncomputable def c17 : V := (.vs [(.int .i64 3), (.int .i64 0), (.str ⟨#[76,105,115,116]⟩), c13, .nils, (.int .i64 0), (.int .i64 2), (.str ⟨#[]⟩), .nils, .nils] 2 5 .tight)
noncomputable def c18 : V := (.agg [(.int .i64 12), (.int .i64 0), (.str ⟨#[]⟩), .nils, .nils])
noncomputable def c19 : V := (.vs [(.int .i64 3), (.int .i64 0), (.str ⟨#[76,105,115,116]⟩), c13, .nils, (.int .i64 12), (.int .i64 0), (.str ⟨#[]⟩), .nils, .nils] 2 5 .tight)
noncomputable def c20 : V := (.agg [(.int .i64 4), (.int .i64 0), (.str ⟨#[]⟩), .nils, c19])
noncomputable def c21 : V := (.agg [(.int .i64 3), (.int .i64 0), (.str ⟨#[76,105,115,116]⟩), c13, .nils])
noncomputable def c22 : V := (.agg [(.int .i64 3), (.int .i64 0), (.str ⟨#[78,97,116]⟩), .nils, .nils])
noncomputable def c23 : V := (.tup [(.agg [(.int .i64 0), .nils]), (.int .i64 0)])
noncomputable def c24 : V := (.tup [c22, (.int .i64 0)])
noncomputable def c25 : V := (.vs [(.int .i64 0), .nils] 1 2 .lock)
noncomputable def c26 : V := (.agg [(.int .i64 2), (.int .i64 0), (.str ⟨#[]⟩), c25, .nils])
noncomputable def c27 : V := (.tup [c26, (.int .i64 0)])
noncomputable def c28 : V := (.vs [(.int .i64 2), (.int .i64 0), (.str ⟨#[]⟩), c13, .nils, (.bool true), (.int .i64 3), (.int .i64 0), (.str ⟨#[78,97,116]⟩), .nils, .nils, (.bool false)] 1 12 .lock)
noncomputable def c29 : V := (.vs [(.int .i64 0), .nils, (.int .i64 0), c11] 1 4 .lock)
noncomputable def c30 : V := (.agg [c28, .nils, c29, (.int .i64 1)])
noncomputable def c31 : V := (.vs [(.int .i64 3), (.int .i64 0), (.str ⟨#[78,97,116,46,115,117,99,99]⟩), .nils, .nils, (.int .i64 3), (.int .i64 0), (.str ⟨#[78,97,116,46,122,101,114,111]⟩), .nils, .nils] 2 5 .tight)
noncomputable def c32 : V := (.agg [(.int .i64 4), (.int .i64 0), (.str ⟨#[]⟩), .nils, c31])
noncomputable def c33 : V := (.vs [(.int .i64 3), (.int .i64 0), (.str ⟨#[76,105,115,116]⟩), c13, .nils, (.int .i64 3), (.int .i64 0), (.str ⟨#[78,97,116]⟩), .nils, .nils] 2 5 .tight)
noncomputable def c34 : V := (.agg [(.int .i64 4), (.int .i64 0), (.str ⟨#[]⟩), .nils, c33])
noncomputable def c35 : V := (.vs [(.int .i64 (-2)), (.int .i64 0)] 1 2 .tight)
noncomputable def c36 : V := (.vs [(.int .i64 (-2)), (.int .i64 0)] 1 2 .lock)
noncomputable def c37 : V := (.agg [(.int .i64 0), c36])
noncomputable def c38 : V := (.vs [(.int .i64 0), c36] 1 2 .lock)
noncomputable def c39 : V := (.agg [(.int .i64 2), (.int .i64 0), (.str ⟨#[]⟩), c38, .nils])
noncomputable def c40 : V := (.vs [(.int .i64 3), (.int .i64 0), (.str ⟨#[76,105,115,116]⟩), c38, .nils, (.int .i64 0), (.int .i64 0), (.str ⟨#[]⟩), .nils, .nils] 2 5 .tight)
noncomputable def c41 : V := (.agg [(.int .i64 4), (.int .i64 0), (.str ⟨#[]⟩), .nils, c40])
noncomputable def c42 : V := (.agg [(.int .i64 12), (.int .i64 1), (.str ⟨#[]⟩), .nils, .nils])
noncomputable def c43 : V := (.vs [(.int .i64 3), (.int .i64 0), (.str ⟨#[76,105,115,116]⟩), c38, .nils, (.int .i64 12), (.int .i64 1), (.str ⟨#[]⟩), .nils, .nils] 2 5 .tight)
noncomputable def c44 : V := (.agg [(.int .i64 4), (.int .i64 0), (.str ⟨#[]⟩), .nils, c43])
noncomputable def c45 : V := (.vs [(.int .i64 2), (.int .i64 0), (.str ⟨#[]⟩), c13, .nils, (.bool true), (.int .i64 3), (.int .i64 0), (.str ⟨#[78,97,116]⟩), .nils, .nils, (.bool false), (.int .i64 2), (.int .i64 0), (.str ⟨#[]⟩), c38, .nils, (.bool true), (.int .i64 3), (.int .i64 0), (.str ⟨#[78,97,116]⟩), .nils, .nils, (.bool false)] 2 12 .lock)
noncomputable def c46 : V := (.vs [(.int .i64 0), .nils, (.int .i64 0), c11, (.int .i64 0), c36, (.int .i64 0), c11, (.int .i64 0), c11, (.int .i64 0), c36, (.int .i64 0), .nils, (.int .i64 0), c36] 4 4 .lock)
noncomputable def c47 : V := (.agg [c45, .nils, c46, (.int .i64 2)])
noncomputable def c48 : V := (.vs [(.int .i64 0), c35] 1 2 .lock)
noncomputable def c49 : V := (.vs [(.int .i64 3), (.int .i64 0), (.str ⟨#[76,105,115,116,46,110,105,108]⟩), c48, .nils, (.int .i64 12), (.int .i64 1), (.str ⟨#[]⟩), .nils, .nils] 2 5 .tight)
noncomputable def c50 : V := (.vs [(.int .i64 3), (.int .i64 0), (.str ⟨#[76,105,115,116,46,110,105,108]⟩), c48, .nils, (.int .i64 3), (.int .i64 0), (.str ⟨#[78,97,116]⟩), .nils, .nils] 2 5 .tight)
noncomputable def c51 : V := (.vs [(.int .i64 0), c10] 1 2 .lock)
noncomputable def c52 : V := (.vs [(.int .i64 4), (.int .i64 0), (.str ⟨#[]⟩), .nils, (.vs [(.int .i64 3), (.int .i64 0), (.str ⟨#[76,105,115,116,46,99,111,110,115]⟩), c51, .nils, (.int .i64 3), (.int .i64 0), (.str ⟨#[78,97,116]⟩), .nils, .nils] 2 5 .tight), (.int .i64 4), (.int .i64 0), (.str ⟨#[]⟩), .nils, c31] 2 5 .tight)
noncomputable def c53 : V := (.agg [(.int .i64 4), (.int .i64 0), (.str ⟨#[]⟩), .nils, (.vs [(.int .i64 4), (.int .i64 0), (.str ⟨#[]⟩), .nils, c52, (.int .i64 4), (.int .i64 0), (.str ⟨#[]⟩), .nils, c50] 2 5 .tight)])
noncomputable def c54 : V := (.tup [c12, (.int .i64 0)])
noncomputable def c55 : V := (.vs [(.int .i64 0), (.int .i64 0), (.str ⟨#[]⟩), .nils, .nils, (.int .i64 6), (.int .i64 0), (.str ⟨#[]⟩), .nils, (.vs [(.int .i64 4), (.int .i64 0), (.str ⟨#[]⟩), .nils, c16, (.int .i64 4), (.int .i64 0), (.str ⟨#[]⟩), .nils, c17] 2 5 .tight)] 2 5 .tight)
noncomputable def c56 : V := (.vs [(.int .i64 4), (.int .i64 0), (.str ⟨#[]⟩), .nils, c19, (.int .i64 4), (.int .i64 0), (.str ⟨#[]⟩), .nils, c19] 2 5 .tight)
noncomputable def c57 : V := (.agg [(.int .i64 6), (.int .i64 0), (.str ⟨#[]⟩), .nils, (.vs [(.int .i64 12), (.int .i64 0), (.str ⟨#[]⟩), .nils, .nils, (.int .i64 6), (.int .i64 0), (.str ⟨#[]⟩), .nils, c56] 2 5 .tight)])
noncomputable def c58 : V := (.tup [c57, (.int .i64 0)])
noncomputable def c59 : V := (.tup [c30, (.int .i64 0)])
noncomputable def c60 : V := (.agg [(.int .i64 6), (.int .i64 0), (.str ⟨#[]⟩), .nils, c56])
noncomputable def c61 : V := (.tup [c37, (.int .i64 0)])
noncomputable def c62 : V := (.tup [c47, (.int .i64 0)])
noncomputable def c63 : V := (.vs [(.int .i64 0), .nils, (.int .i64 0), .nils] 2 2 .tight)
noncomputable def c64 : V := (.agg [(.int .i64 1), (.str ⟨#[]⟩), (.int .i64 0), .nils, .nils, .nils, (.int .i64 0), (.int .i64 0)])
noncomputable def c65 : V := (.agg [(.int .i64 6), (.int .i64 0), (.str ⟨#[]⟩), .nils, (.vs [(.int .i64 2), (.int .i64 0), (.str ⟨#[]⟩), c13, .nils, (.int .i64 6), (.int .i64 0), (.str ⟨#[]⟩), .nils, c55] 2 5 .tight)])
noncomputable def c66 : V := (.tup [c65, (.int .i64 0)])
noncomputable def c67 : V := (.vs [(.int .i64 2), (.int .i64 0), (.str ⟨#[]⟩), c13, .nils, (.bool false), (.int .i64 0), (.int .i64 0), (.str ⟨#[]⟩), .nils, .nils, (.bool false)] 1 12 .lock)
noncomputable def c68 : V := (.agg [(.int .i64 6), (.int .i64 0), (.str ⟨#[]⟩), .nils, (.vs [(.int .i64 2), (.int .i64 0), (.str ⟨#[]⟩), c38, .nils, (.int .i64 4), (.int .i64 0), (.str ⟨#[]⟩), .nils, c40] 2 5 .tight)])
noncomputable def c69 : V := (.tup [c68, (.int .i64 0)])
noncomputable def c70 : V := (.agg [(.int .i64 4), (.int .i64 0), (.str ⟨#[]⟩), .nils, (.vs [(.int .i64 4), (.int .i64 0), (.str ⟨#[]⟩), .nils, (.vs [(.int .i64 4), (.int .i64 0), (.str ⟨#[]⟩), .nils, (.vs [(.int .i64 3), (.int .i64 0), (.str ⟨#[76,105,115,116,46,99,111,110,115]⟩), c25, .nils, (.int .i64 3), (.int .i64 0), (.str ⟨#[78,97,116]⟩), .nils, .nils] 2 5 .tight), (.int .i64 4), (.int .i64 0), (.str ⟨#[]⟩), .nils, c31] 2 5 .tight), (.int .i64 4), (.int .i64 0), (.str ⟨#[]⟩), .nils, (.vs [(.int .i64 3), (.int .i64 0), (.str ⟨#[76,105,115,116,46,110,105,108]⟩), c25, .nils, (.int .i64 3), (.int .i64 0), (.str ⟨#[78,97,116]⟩), .nils, .nils] 2 5 .tight)] 2 5 .tight)])
noncomputable def c71 : V := (.agg [(.int .i64 4), (.int .i64 0), (.str ⟨#[]⟩), .nils, (.vs [(.int .i64 3), (.int .i64 0), (.str ⟨#[76,105,115,116]⟩), c25, .nils, (.int .i64 3), (.int .i64 0), (.str ⟨#[78,97,116]⟩), .nils, .nils] 2 5 .tight)])
noncomputable def c72 : V := (.tup [c71, (.int .i64 0)])
noncomputable def t0 : Tab := []
noncomputable def l1 : Tab := [
  (10, [], c8),
  (221, [c8, (.str ⟨#[76,105,115,116,46,99,111,110,115]⟩)], (.bool true)),
  (123, [c6, (.str ⟨#[76,105,115,116,46,99,111,110,115]⟩)], (.tup [(.agg [(.int .i64 0), (.int .i64 6), (.int .i64 0), (.int .i64 1), (.int .i64 6), (.int .i64 0), (.str ⟨#[]⟩), .nils, c5]), (.int .i64 0)])),
  (40, [c9], (.bool true)),
  (40, [(.agg [(.int .i64 0), c10])], (.bool true)),
  (260, [(.vs [(.int .i64 (-1))] 1 1 .lock)], (.tup [])),
  (70, [c12], (.bool true)),
  (126, [c14], (.int .i64 1)),
  (126, [c15], (.int .i64 1)),
  (127, [(.agg [(.int .i64 4), (.int .i64 0), (.str ⟨#[]⟩), .nils, c16])], (.int .i64 2)),
  (127, [(.agg [(.int .i64 4), (.int .i64 0), (.str ⟨#[]⟩), .nils, c17])], (.int .i64 2)),
  (126, [c18], (.int .i64 1)),
  (94, [c18, (.int .i64 1), (.int .i64 0)], c18),
  (157, [c20], (.tup [c21, (.vs [(.int .i64 12), (.int .i64 0), (.str ⟨#[]⟩), .nils, .nils] 1 5 .lock)])),
  (126, [c20], (.int .i64 3)),
  (127, [c20], (.int .i64 2)),
  (123, [c6, (.str ⟨#[78,97,116]⟩)], (.tup [(.agg [(.int .i64 0), (.int .i64 0), (.int .i64 0), (.int .i64 0), (.int .i64 2), (.int .i64 0), (.str ⟨#[]⟩), c0, .nils]), (.int .i64 0)])),
  (126, [c22], (.int .i64 1)),
  (286, [c22], c22),
  (287, [c22], (.tup [(.int .i64 0), .nils, (.bool false)])),
  (287, [c18], (.tup [(.int .i64 0), .nils, (.bool true)])),
  (67, [c22], .nils),
  (260, [.nils], (.tup [])),
  (306, [(.agg [(.int .i64 0), .nils])], (.int .i64 0)),
  (42, [(.agg [(.int .i64 0), .nils])], c23),
  (311, [c22, .nils], c24),
  (253, [.nils, c22], c22),
  (126, [c26], (.int .i64 1)),
  (86, [c6, c26], c27),
  (146, [c30], (.agg [(.int .i64 1), (.int .i64 0)])),
  (126, [c32], (.int .i64 3)),
  (126, [c34], (.int .i64 3)),
  (127, [c34], (.int .i64 2)),
  (221, [c8, (.str ⟨#[76,105,115,116,46,110,105,108]⟩)], (.bool true)),
  (123, [c6, (.str ⟨#[76,105,115,116,46,110,105,108]⟩)], (.tup [(.agg [(.int .i64 0), (.int .i64 5), (.int .i64 0), (.int .i64 1), (.int .i64 6), (.int .i64 0), (.str ⟨#[]⟩), .nils, c4]), (.int .i64 0)])),
  (40, [(.agg [(.int .i64 0), c35])], (.bool true)),
  (260, [(.vs [(.int .i64 (-2))] 1 1 .lock)], (.tup [])),
  (70, [c37], (.bool true)),
  (126, [c39], (.int .i64 1)),
  (127, [c41], (.int .i64 2)),
  (126, [c42], (.int .i64 1)),
  (157, [c44], (.tup [(.agg [(.int .i64 3), (.int .i64 0), (.str ⟨#[76,105,115,116]⟩), c38, .nils]), (.vs [(.int .i64 12), (.int .i64 1), (.str ⟨#[]⟩), .nils, .nils] 1 5 .lock)])),
  (123, [c6, (.str ⟨#[76,105,115,116]⟩)], (.tup [(.agg [(.int .i64 0), (.int .i64 4), (.int .i64 0), (.int .i64 1), (.int .i64 6), (.int .i64 0), (.str ⟨#[]⟩), .nils, c3]), (.int .i64 0)])),
  (157, [c34], (.tup [c21, (.vs [(.int .i64 3), (.int .i64 0), (.str ⟨#[78,97,116]⟩), .nils, .nils] 1 5 .lock)])),
  (287, [c42], (.tup [(.int .i64 1), .nils, (.bool true)])),
  (146, [c47], (.agg [(.int .i64 2), (.int .i64 0)]))
]
noncomputable def t1 : Tab := l1 ++ t0
noncomputable def l2 : Tab := [
  (138, [c34, (.vs [(.int .i64 4), (.int .i64 0), (.str ⟨#[]⟩), .nils, c49] 1 5 .tight), (.int .i64 0)], (.tup [c34, (.int .i64 0)])),
  (40, [c12], (.bool true)),
  (255, [(.agg [(.int .i64 0), .nils])], .nils),
  (40, [c37], (.bool true)),
  (214, [(.agg [(.int .i64 0), .nils])], (.bool false)),
  (209, [(.agg [(.int .i64 0), .nils]), (.agg [(.int .i64 0), .nils])], (.bool true)),
  (127, [c32], (.int .i64 2)),
  (127, [(.agg [(.int .i64 4), (.int .i64 0), (.str ⟨#[]⟩), .nils, c50])], (.int .i64 2)),
  (126, [c53], (.int .i64 11)),
  (67, [c53], .nils),
  (68, [c22, (.int .i64 2)], (.bool false))
]
noncomputable def t2 : Tab := l2 ++ t1
noncomputable def l3 : Tab := [
  (174, [c8, (.str ⟨#[76,105,115,116,46,99,111,110,115]⟩)], (.tup [(.str ⟨#[76,105,115,116,46,99,111,110,115]⟩), (.int .i64 0)])),
  (163, [c51, (.fn (.func 214) [] [])], (.int .i64 (-1))),
  (306, [c9], (.int .i64 1)),
  (42, [c12], c54),
  (213, [c14], (.bool false)),
  (213, [c15], (.bool false)),
  (138, [(.agg [(.int .i64 6), (.int .i64 0), (.str ⟨#[]⟩), .nils, c55]), (.vs [(.int .i64 12), (.int .i64 0), (.str ⟨#[]⟩), .nils, .nils] 1 5 .tight), (.int .i64 0)], c58),
  (213, [c18], (.bool false)),
  (158, [c20, (.int .i64 0)], c20),
  (213, [c22], (.bool false)),
  (86, [c6, c22], c24),
  (295, [c22], .nils),
  (270, [(.agg [(.int .i64 0), .nils]), .nils], c23),
  (213, [c26], (.bool false)),
  (97, [c6, c30], c59),
  (138, [c60, (.vs [(.int .i64 4), (.int .i64 0), (.str ⟨#[]⟩), .nils, c31] 1 5 .tight), (.int .i64 0)], (.tup [c60, (.int .i64 0)])),
  (158, [c34, (.int .i64 0)], c34),
  (163, [c48, (.fn (.func 214) [] [])], (.int .i64 (-1)))
]
noncomputable def t3 : Tab := l3 ++ t2
noncomputable def l4 : Tab := [
  (42, [c37], c61),
  (213, [c39], (.bool false)),
  (138, [c41, (.vs [(.int .i64 12), (.int .i64 1), (.str ⟨#[]⟩), .nils, .nils] 1 5 .tight), (.int .i64 0)], (.tup [c44, (.int .i64 0)])),
  (213, [c42], (.bool false)),
  (97, [c6, c47], c62),
  (207, [c12, (.int .i64 2)], (.bool false)),
  (207, [c37, (.int .i64 2)], (.bool false)),
  (68, [(.agg [(.int .i64 4), (.int .i64 0), (.str ⟨#[]⟩), .nils, c52]), (.int .i64 2)], (.bool false)),
  (163, [c63, (.fn (.func 214) [] [])], (.int .i64 (-1))),
  (9, [c8, .nils, (.agg [(.int .i64 3), (.str ⟨#[120]⟩), (.int .i64 0), .nils, .nils, (.vs [(.int .i64 1), (.str ⟨#[]⟩), (.int .i64 0), .nils, .nils, .nils, (.int .i64 0), (.int .i64 0), (.int .i64 0), (.str ⟨#[120]⟩), (.int .i64 0), .nils, .nils, .nils, (.int .i64 0), (.int .i64 0)] 2 8 .tight), (.int .i64 0), (.int .i64 0)]), c64], (.tup [c15, c15, (.int .i64 0), (.int .i64 23)]))
]
noncomputable def t4 : Tab := l4 ++ t3
noncomputable def l5 : Tab := [
  (270, [c9, c51], c54),
  (66, [.nils, c65], c66)
]
noncomputable def t5 : Tab := l5 ++ t4
noncomputable def l6 : Tab := [
  (66, [c67, c57], c58),
  (223, [(.agg [(.int .i64 2), (.int .i64 0), (.str ⟨#[]⟩), c0, .nils]), .nils], c27),
  (318, [.nils, c22], c24),
  (66, [c28, c60], (.tup [(.agg [(.int .i64 6), (.int .i64 0), (.str ⟨#[]⟩), .nils, (.vs [(.int .i64 4), (.int .i64 0), (.str ⟨#[]⟩), .nils, c33, (.int .i64 4), (.int .i64 0), (.str ⟨#[]⟩), .nils, c33] 2 5 .tight)]), (.int .i64 0)])),
  (270, [c9, c48], c61),
  (66, [c28, c68], c69)
]
noncomputable def t6 : Tab := l6 ++ t5
noncomputable def l7 : Tab := [
  (101, [(.int .i64 2), c46], (.tup [c63, (.int .i64 0), (.int .i64 0)])),
  (66, [c45, (.agg [(.int .i64 4), (.int .i64 0), (.str ⟨#[]⟩), .nils, (.vs [(.int .i64 4), (.int .i64 0), (.str ⟨#[]⟩), .nils, (.vs [(.int .i64 4), (.int .i64 0), (.str ⟨#[]⟩), .nils, (.vs [(.int .i64 3), (.int .i64 0), (.str ⟨#[76,105,115,116,46,99,111,110,115]⟩), c51, .nils, (.int .i64 12), (.int .i64 0), (.str ⟨#[]⟩), .nils, .nils] 2 5 .tight), (.int .i64 4), (.int .i64 0), (.str ⟨#[]⟩), .nils, c31] 2 5 .tight), (.int .i64 4), (.int .i64 0), (.str ⟨#[]⟩), .nils, c49] 2 5 .tight)])], (.tup [c53, (.int .i64 0)]))
]
noncomputable def t7 : Tab := l7 ++ t6
noncomputable def l8 : Tab := [
  (69, [c53, c63], (.tup [c70, (.int .i64 0)])),
  (69, [c34, c63], c72)
]
noncomputable def t8 : Tab := l8 ++ t7
noncomputable def l9 : Tab := [
  (223, [(.agg [(.int .i64 6), (.int .i64 0), (.str ⟨#[]⟩), .nils, c5]), c51], c66),
  (176, [c6, (.str ⟨#[78,97,116]⟩), .nils], c27),
  (223, [(.agg [(.int .i64 6), (.int .i64 0), (.str ⟨#[]⟩), .nils, c4]), c48], c69),
  (30, [c47, c63, c34], c72)
]
noncomputable def t9 : Tab := l9 ++ t8
noncomputable def l10 : Tab := [
  (89, [c6, (.agg [c67, .nils, .nils, (.int .i64 1)]), (.agg [.nils, (.int .i64 3), (.int .i64 0), (.str ⟨#[78,97,116]⟩), .nils, .nils, (.int .i64 12), (.int .i64 0), (.str ⟨#[]⟩), .nils, .nils, (.bool true)])], c59)
]
noncomputable def t10 : Tab := l10 ++ t9
noncomputable def l11 : Tab := [
  (89, [c6, (.agg [(.vs [(.int .i64 2), (.int .i64 0), (.str ⟨#[]⟩), c13, .nils, (.bool true), (.int .i64 3), (.int .i64 0), (.str ⟨#[78,97,116]⟩), .nils, .nils, (.bool false), (.int .i64 2), (.int .i64 0), (.str ⟨#[]⟩), c38, .nils, (.bool false), (.int .i64 0), (.int .i64 0), (.str ⟨#[]⟩), .nils, .nils, (.bool false)] 2 12 .lock), .nils, c29, (.int .i64 2)]), (.agg [.nils, (.int .i64 4), (.int .i64 0), (.str ⟨#[]⟩), .nils, c43, (.int .i64 4), (.int .i64 0), (.str ⟨#[]⟩), .nils, c33, (.bool true)])], c62)
]
noncomputable def t11 : Tab := l11 ++ t10
noncomputable def l12 : Tab := [
  (9, [c8, .nils, (.agg [(.int .i64 2), (.str ⟨#[]⟩), (.int .i64 0), .nils, .nils, (.vs [(.int .i64 2), (.str ⟨#[]⟩), (.int .i64 0), .nils, .nils, (.vs [(.int .i64 0), (.str ⟨#[76,105,115,116,46,99,111,110,115]⟩), (.int .i64 0), .nils, .nils, .nils, (.int .i64 0), (.int .i64 0), (.int .i64 12), (.str ⟨#[]⟩), (.int .i64 1), .nils, .nils, .nils, (.int .i64 0), (.int .i64 0)] 2 8 .tight), (.int .i64 0), (.int .i64 0), (.int .i64 0), (.str ⟨#[76,105,115,116,46,110,105,108]⟩), (.int .i64 0), .nils, .nils, .nils, (.int .i64 0), (.int .i64 0)] 2 8 .tight), (.int .i64 0), (.int .i64 0)]), c64], (.tup [c70, c71, (.int .i64 0), (.int .i64 0)]))
]
noncomputable def t12 : Tab := l12 ++ t11
noncomputable def l13 : Tab := [
  (5, [], (.bool true))
]
noncomputable def t13 : Tab := l13 ++ t12
end Go.Proofs.YtelobjfgghlkfaaGreat.Tb
