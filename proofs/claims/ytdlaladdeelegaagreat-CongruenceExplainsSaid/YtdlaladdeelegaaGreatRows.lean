/-
  No cell of these rows narrows 'for every input' (looked for: loops, veiled, ifaces, maps, wideKeys, modest, calm, conditions, laid).
  DERIVED. THE GIVEN ROWS OF THIS SEAT. 4 by the template 'for every input the law returns true; each argument reads behind the call as it read before'; 0 by the template 'total and deterministic' (their statements: YtdlaladdeelegaaGreatTotals.lean).
  GIVEN WITH THE SEED: the statements are not yours to turn. If you find one false, say at which input.
  Laid BY PROGRAM, IN A SANDBOX (cutbox-rows.mjs): the forced cells as the released guide's own fill.sh prints them over the translation ff563667d892f101… (all of the seat's roots in one cut). By AI agents, Wed Nov 11 2026. No macro, syntax, notation, axiom, sorry.
-/
import Derived.Test.YtdlaladdeelegaaGreatChecked
import GoSem.Claim
import GoSem.ClaimJoined
import GoSem.ClaimMapViews
import Derived.JoinedTies
import Derived.KernelRfl
namespace Go.Proofs.YtdlaladdeelegaaGreat
/- THE CELL 'sum', in the pinned program and in every row, IS THE sha256 OF THE DUMP (.gsa) THAT YtdlaladdeelegaaGreatProg.lean LOADS. Nothing in Lean hashes anything: it is a label: what it is worth is what the hold of that sum in a sandbox is worth. -/
noncomputable def Tryz.pinned : Pinned := { name := "ytdlaladdeelegaagreat", sum := "ff563667d892f101ea55e55b8309a8fde463ace04c2fcc6bb70c241747dc212d", checked := Tryz.checked }
namespace Rows
def none {H : Type} : Left H := { results := [], args := [] }

/-- 'euclidlaw39.CongruenceCloses': WHATEVER THE INPUT: true; the input reads as it did. -/
def congruenceClosesSpec : ChangeSpec := { name := "congruenceCloses", fn := fun _ => fun
  | [d] => { results := [.lit (.bool true)], args := [d] }
  | _ => none }
def congruenceClosesRow : OpenClaim := { program := "ytdlaladdeelegaagreat", sum := "ff563667d892f101ea55e55b8309a8fde463ace04c2fcc6bb70c241747dc212d", func := "euclid/euclidlaw39.CongruenceCloses", spec := "congruenceCloses", unfollowed := true, recurses := true, plainKeys := false, apart := false }
def CongruenceClosesSaid : Prop := congruenceClosesRow.holds Tryz.pinned (OpenSpec.ofChange congruenceClosesSpec)

/-- ITS FALSE NEIGHBOUR: 'it returns false'. Refute it at one input. -/
def congruenceClosesWrong : ChangeSpec := { name := "congruenceCloses", fn := fun _ => fun
  | [d] => { results := [.lit (.bool false)], args := [d] }
  | _ => none }
def CongruenceClosesWrongFalsely : Prop := congruenceClosesRow.holds Tryz.pinned (OpenSpec.ofChange congruenceClosesWrong)

/-- 'euclidlaw39.CongruenceExplains': WHATEVER THE INPUT: true; the input reads as it did. -/
def congruenceExplainsSpec : ChangeSpec := { name := "congruenceExplains", fn := fun _ => fun
  | [d1, d2, d3] => { results := [.lit (.bool true)], args := [d1, d2, d3] }
  | _ => none }
def congruenceExplainsRow : OpenClaim := { program := "ytdlaladdeelegaagreat", sum := "ff563667d892f101ea55e55b8309a8fde463ace04c2fcc6bb70c241747dc212d", func := "euclid/euclidlaw39.CongruenceExplains", spec := "congruenceExplains", unfollowed := true, recurses := true, plainKeys := false, apart := false }
def CongruenceExplainsSaid : Prop := congruenceExplainsRow.holds Tryz.pinned (OpenSpec.ofChange congruenceExplainsSpec)

/-- ITS FALSE NEIGHBOUR: 'it returns false'. Refute it at one input. -/
def congruenceExplainsWrong : ChangeSpec := { name := "congruenceExplains", fn := fun _ => fun
  | [d1, d2, d3] => { results := [.lit (.bool false)], args := [d1, d2, d3] }
  | _ => none }
def CongruenceExplainsWrongFalsely : Prop := congruenceExplainsRow.holds Tryz.pinned (OpenSpec.ofChange congruenceExplainsWrong)

/-- 'euclidlaw39.CongruenceRelates': WHATEVER THE INPUT: true; the input reads as it did. -/
def congruenceRelatesSpec : ChangeSpec := { name := "congruenceRelates", fn := fun _ => fun
  | [d] => { results := [.lit (.bool true)], args := [d] }
  | _ => none }
def congruenceRelatesRow : OpenClaim := { program := "ytdlaladdeelegaagreat", sum := "ff563667d892f101ea55e55b8309a8fde463ace04c2fcc6bb70c241747dc212d", func := "euclid/euclidlaw39.CongruenceRelates", spec := "congruenceRelates", unfollowed := true, recurses := true, plainKeys := false, apart := false }
def CongruenceRelatesSaid : Prop := congruenceRelatesRow.holds Tryz.pinned (OpenSpec.ofChange congruenceRelatesSpec)

/-- ITS FALSE NEIGHBOUR: 'it returns false'. Refute it at one input. -/
def congruenceRelatesWrong : ChangeSpec := { name := "congruenceRelates", fn := fun _ => fun
  | [d] => { results := [.lit (.bool false)], args := [d] }
  | _ => none }
def CongruenceRelatesWrongFalsely : Prop := congruenceRelatesRow.holds Tryz.pinned (OpenSpec.ofChange congruenceRelatesWrong)

/-- 'euclidlaw39.CongruenceSound': WHATEVER THE INPUT: true; the input reads as it did. -/
def congruenceSoundSpec : ChangeSpec := { name := "congruenceSound", fn := fun _ => fun
  | [d1, d2] => { results := [.lit (.bool true)], args := [d1, d2] }
  | _ => none }
def congruenceSoundRow : OpenClaim := { program := "ytdlaladdeelegaagreat", sum := "ff563667d892f101ea55e55b8309a8fde463ace04c2fcc6bb70c241747dc212d", func := "euclid/euclidlaw39.CongruenceSound", spec := "congruenceSound", unfollowed := true, recurses := true, plainKeys := false, apart := false }
def CongruenceSoundSaid : Prop := congruenceSoundRow.holds Tryz.pinned (OpenSpec.ofChange congruenceSoundSpec)

/-- ITS FALSE NEIGHBOUR: 'it returns false'. Refute it at one input. -/
def congruenceSoundWrong : ChangeSpec := { name := "congruenceSound", fn := fun _ => fun
  | [d1, d2] => { results := [.lit (.bool false)], args := [d1, d2] }
  | _ => none }
def CongruenceSoundWrongFalsely : Prop := congruenceSoundRow.holds Tryz.pinned (OpenSpec.ofChange congruenceSoundWrong)

/- THE SECOND FORM. 'bulk': how many values and letters a reading holds, each counted each time it is reached (what is shared counts as often as it is met; a slice's spare places count too). A statement '..UptoSaid' is the law's where the arguments, and the package variables that the reading takes, are together of bulk at most 1048576: NARROWER than '..Said'. Prove '..Said' where nothing that the law and all that it calls make is longer than what came in: it says more and counts as full. Else prove '..UptoSaid'. A law counts once. -/
mutual
def uptoBulk {H : Type} : DataW H → Nat
  | .lit (.string bytes) => bytes.length + 1
  | .lit _ => 1
  | .nil => 1
  | .ptr d => uptoBulk d + 1
  | .slice elems spare => uptoBulkAll elems + uptoBulkAll spare + 1
  | .agg parts => uptoBulkAll parts + 1
  | .iface _ d => uptoBulk d + 1
  | .map entries => uptoBulkEntries entries + 1
  | .held _ => 1
def uptoBulkAll {H : Type} : List (DataW H) → Nat
  | [] => 0
  | d :: r => uptoBulk d + uptoBulkAll r
def uptoBulkEntries {H : Type} : List (Lit × DataW H) → Nat
  | [] => 0
  | x :: r => uptoBulkEntry x + uptoBulkEntries r
def uptoBulkEntry {H : Type} : Lit × DataW H → Nat
  | (.string bytes, d) => bytes.length + uptoBulk d + 1
  | (_, d) => uptoBulk d + 1
 end
def uptoSmall : (H : Type) → List (DataW H) → Bool := fun _ ds => decide (uptoBulkAll ds ≤ 1048576)
def OpenSpec.upto (s : _root_.Go.ChangeSpec) : _root_.Go.OpenSpec := { _root_.Go.OpenSpec.ofChange s with cond := some uptoSmall }

/-- 'euclidlaw39.CongruenceCloses', WHERE WHAT IT READS IS OF BULK AT MOST 1048576: true; the input reads as it did. -/
def congruenceClosesUptoRow : OpenClaim := { program := "ytdlaladdeelegaagreat", sum := "ff563667d892f101ea55e55b8309a8fde463ace04c2fcc6bb70c241747dc212d", func := "euclid/euclidlaw39.CongruenceCloses", spec := "congruenceCloses", unfollowed := true, recurses := true, plainKeys := false, apart := false, narrowed := true }
def CongruenceClosesUptoSaid : Prop := congruenceClosesUptoRow.holds Tryz.pinned (OpenSpec.upto congruenceClosesSpec)

/-- 'euclidlaw39.CongruenceExplains', WHERE WHAT IT READS IS OF BULK AT MOST 1048576: true; the input reads as it did. -/
def congruenceExplainsUptoRow : OpenClaim := { program := "ytdlaladdeelegaagreat", sum := "ff563667d892f101ea55e55b8309a8fde463ace04c2fcc6bb70c241747dc212d", func := "euclid/euclidlaw39.CongruenceExplains", spec := "congruenceExplains", unfollowed := true, recurses := true, plainKeys := false, apart := false, narrowed := true }
def CongruenceExplainsUptoSaid : Prop := congruenceExplainsUptoRow.holds Tryz.pinned (OpenSpec.upto congruenceExplainsSpec)

/-- 'euclidlaw39.CongruenceRelates', WHERE WHAT IT READS IS OF BULK AT MOST 1048576: true; the input reads as it did. -/
def congruenceRelatesUptoRow : OpenClaim := { program := "ytdlaladdeelegaagreat", sum := "ff563667d892f101ea55e55b8309a8fde463ace04c2fcc6bb70c241747dc212d", func := "euclid/euclidlaw39.CongruenceRelates", spec := "congruenceRelates", unfollowed := true, recurses := true, plainKeys := false, apart := false, narrowed := true }
def CongruenceRelatesUptoSaid : Prop := congruenceRelatesUptoRow.holds Tryz.pinned (OpenSpec.upto congruenceRelatesSpec)

/-- 'euclidlaw39.CongruenceSound', WHERE WHAT IT READS IS OF BULK AT MOST 1048576: true; the input reads as it did. -/
def congruenceSoundUptoRow : OpenClaim := { program := "ytdlaladdeelegaagreat", sum := "ff563667d892f101ea55e55b8309a8fde463ace04c2fcc6bb70c241747dc212d", func := "euclid/euclidlaw39.CongruenceSound", spec := "congruenceSound", unfollowed := true, recurses := true, plainKeys := false, apart := false, narrowed := true }
def CongruenceSoundUptoSaid : Prop := congruenceSoundUptoRow.holds Tryz.pinned (OpenSpec.upto congruenceSoundSpec)

end Rows
end Go.Proofs.YtdlaladdeelegaaGreat
