/- ElabLevels returns true, whatever comes in: the statement, proved. -/
import Derived.Test.YtelobjfgghlkfaaGreatD6
import Derived.Test.YtelobjfgghlkfaaGreatA8
import Derived.Test.YtelobjfgghlkfaaGreatRows
import Derived.ProofKit
set_option linter.all false
noncomputable section
set_option linter.unusedSimpArgs false
set_option linter.unusedVariables false
namespace Go.Proofs.YtelobjfgghlkfaaGreat.El
open Go Go.Ae Go.RowKit Go.ChangeShapes Go.WideShapes Go.ChangeAt

/-- The types of a struct's fields. -/
def structTypes (P : Program) (t : TypeId) : Option (List TypeId) := match P.underlying t with
  | some (.struct fs) => some (fs.toList.map (·.type))
  | _ => none

/-- Fields, told by their types. -/
inductive TyT (P : Program) : List TypeId → List V → Prop
  | nil : TyT P [] []
  | cons {t : TypeId} {ts : List TypeId} {a b : List V} (h : Ty P t a) (ht : TyT P ts b) : TyT P (t :: ts) (a ++ b)

theorem tyT_of {P : Program} : ∀ {fs : List Field} {cells : List V}, TyF P fs cells → TyT P (fs.map (·.type)) cells := by
  intro fs
  induction fs with
  | nil => intro cells h; cases h; exact .nil
  | cons f fs ih => intro cells h; cases h with | cons h ht => exact .cons h (ih ht)

theorem ty_struct {P : Program} {t : TypeId} {ts : List TypeId} (hs : structTypes P t = some ts) {cells : List V} (h : Ty P t cells) : TyT P ts cells := by
  unfold structTypes at hs
  cases h with
  | strct hu hf => rw [hu] at hs; obtain rfl := Option.some.inj hs; exact tyT_of hf
  | bool hu => rw [hu] at hs; cases hs
  | int hu => rw [hu] at hs; cases hs
  | str hu => rw [hu] at hs; cases hs
  | nils hu => rw [hu] at hs; cases hs
  | ze hu => rw [hu] at hs; cases hs
  | vs hu => rw [hu] at hs; cases hs

theorem ty_int {P : Program} {t : TypeId} {k : IntKind} (hs : P.underlying t = some (.int k)) {cells : List V} (h : Ty P t cells) : ∃ n, cells = [.int k n] ∧ (Lit.int k n).wf = true := by
  cases h with
  | int hu hn => rw [hu] at hs; cases hs; exact ⟨_, rfl, hn⟩
  | strct hu hf => rw [hu] at hs; cases hs
  | bool hu => rw [hu] at hs; cases hs
  | str hu => rw [hu] at hs; cases hs
  | nils hu => rw [hu] at hs; cases hs
  | ze hu => rw [hu] at hs; cases hs
  | vs hu => rw [hu] at hs; cases hs

theorem ty_bool {P : Program} {t : TypeId} (hs : P.underlying t = some .bool) {cells : List V} (h : Ty P t cells) : ∃ b, cells = [.bool b] := by
  cases h with
  | bool hu => exact ⟨_, rfl⟩
  | strct hu hf => rw [hu] at hs; cases hs
  | int hu => rw [hu] at hs; cases hs
  | str hu => rw [hu] at hs; cases hs
  | nils hu => rw [hu] at hs; cases hs
  | ze hu => rw [hu] at hs; cases hs
  | vs hu => rw [hu] at hs; cases hs

theorem ty_str {P : Program} {t : TypeId} (hs : P.underlying t = some .string) {cells : List V} (h : Ty P t cells) : ∃ b, cells = [.str b] := by
  cases h with
  | str hu => exact ⟨_, rfl⟩
  | strct hu hf => rw [hu] at hs; cases hs
  | int hu => rw [hu] at hs; cases hs
  | bool hu => rw [hu] at hs; cases hs
  | nils hu => rw [hu] at hs; cases hs
  | ze hu => rw [hu] at hs; cases hs
  | vs hu => rw [hu] at hs; cases hs

theorem ty_slice {P : Program} {t e : TypeId} (hs : P.underlying t = some (.slice e)) {cells : List V} (h : Ty P t cells) : cells = [.nils] ∨ cells = [.ze] ∨ ∃ cs n, cells = [.vs cs n (szOf P e) .lock] ∧ n ≤ maxLen ∧ TyE P e n cs := by
  cases h with
  | nils hu => exact Or.inl rfl
  | ze hu => exact Or.inr (Or.inl rfl)
  | vs hu hn he => rw [hu] at hs; cases hs; exact Or.inr (Or.inr ⟨_, _, rfl, hn, he⟩)
  | strct hu hf => rw [hu] at hs; cases hs
  | int hu => rw [hu] at hs; cases hs
  | bool hu => rw [hu] at hs; cases hs
  | str hu => rw [hu] at hs; cases hs

theorem ty_in {P : Program} {t e : TypeId} (hs : P.underlying t = some (.slice e)) {cells : List V} (h : Ty P t cells) : ∃ v, cells = [v] ∧ IsIn v := by
  rcases ty_slice hs h with rfl | rfl | ⟨cs, n, rfl, _⟩
  · exact ⟨_, rfl, Or.inl rfl⟩
  · exact ⟨_, rfl, Or.inr (Or.inl rfl)⟩
  · exact ⟨_, rfl, Or.inr (Or.inr ⟨_, _, _, rfl⟩)⟩

theorem u3 : Tryz.prog.underlying 3 = some (.int .i64) := by kernel_rfl
theorem u4 : Tryz.prog.underlying 4 = some .bool := by kernel_rfl
theorem u9 : Tryz.prog.underlying 9 = some .string := by kernel_rfl
theorem u22 : Tryz.prog.underlying 22 = some (.slice 9) := by kernel_rfl
theorem u23 : Tryz.prog.underlying 23 = some (.slice 123) := by kernel_rfl
theorem u24 : Tryz.prog.underlying 24 = some (.slice 126) := by kernel_rfl
theorem u25 : Tryz.prog.underlying 25 = some (.slice 129) := by kernel_rfl
theorem u28 : Tryz.prog.underlying 28 = some (.slice 34) := by kernel_rfl
theorem s27 : structTypes Tryz.prog 27 = some [23, 24, 25, 3] := by kernel_rfl
theorem s30 : structTypes Tryz.prog 30 = some [4, 28] := by kernel_rfl
theorem s34 : structTypes Tryz.prog 34 = some [9, 3] := by kernel_rfl
def plainS : List TypeId := [34, 28, 30, 129, 25, 126, 24, 4, 50, 74, 35, 37, 49, 3, 52, 123, 23, 27, 9, 22]
theorem plain_ok : plainTs Tryz.prog plainS = true := by kernel_rfl

theorem ty_ss {cells : List V} (h : Ty Tryz.prog 22 cells) : ∃ s ls, cells = [s] ∧ IsSs ls s ∧ ls.length ≤ maxLen := by
  rcases ty_slice u22 h with rfl | rfl | ⟨cs, n, rfl, hn, he⟩
  · exact ⟨_, [], rfl, ⟨Or.inl ⟨rfl, Or.inl rfl⟩⟩, by simp⟩
  · exact ⟨_, [], rfl, ⟨Or.inl ⟨rfl, Or.inr rfl⟩⟩, by simp⟩
  · have key : ∀ (n : Nat) (cs : List V), TyE Tryz.prog 9 n cs → ∃ ls : List ByteArray, cs = ls.map V.str ∧ ls.length = n := by
      intro n
      induction n with
      | zero => intro cs h; cases h; exact ⟨[], rfl, rfl⟩
      | succ n ih =>
        intro cs h
        cases h with
        | cons h ht =>
          obtain ⟨b, rfl⟩ := ty_str u9 h
          obtain ⟨ls, rfl, rfl⟩ := ih _ ht
          exact ⟨b :: ls, rfl, rfl⟩
    obtain ⟨ls, rfl, rfl⟩ := key n cs he
    exact ⟨_, ls, rfl, ⟨Or.inr (by rw [sz9])⟩, hn⟩

theorem ty_as {cells : List V} (h : Ty Tryz.prog 28 cells) : ∃ s av, cells = [s] ∧ IsAs av s := by
  rcases ty_slice u28 h with rfl | rfl | ⟨cs, n, rfl, hn, he⟩
  · exact ⟨_, [], rfl, ⟨Or.inl ⟨rfl, Or.inl rfl⟩⟩⟩
  · exact ⟨_, [], rfl, ⟨Or.inl ⟨rfl, Or.inr rfl⟩⟩⟩
  · have key : ∀ (n : Nat) (cs : List V), TyE Tryz.prog 34 n cs → ∃ ls : List (ByteArray × Int), cs = acs ls ∧ ls.length = n := by
      intro n
      induction n with
      | zero => intro cs h; cases h; exact ⟨[], rfl, rfl⟩
      | succ n ih =>
        intro cs h
        cases h with
        | cons h ht =>
          obtain ⟨ls, rfl, rfl⟩ := ih _ ht
          cases ty_struct s34 h with
          | cons h1 h2 =>
            obtain ⟨b, rfl⟩ := ty_str u9 h1
            cases h2 with
            | cons h3 h4 =>
              obtain ⟨p, rfl, _⟩ := ty_int u3 h3
              cases h4
              exact ⟨(b, p) :: ls, rfl, rfl⟩
    obtain ⟨ls, rfl, rfl⟩ := key n cs he
    exact ⟨_, ls, rfl, ⟨Or.inr (by rw [sz34])⟩⟩

theorem ty_sto {cells : List V} (h : Ty Tryz.prog 27 cells) : ∃ m q b n, cells = [m, q, b, .int .i64 n] ∧ IsIn m ∧ IsIn q ∧ IsIn b := by
  cases ty_struct s27 h with
  | cons h1 h2 => cases h2 with
    | cons h3 h4 => cases h4 with
      | cons h5 h6 => cases h6 with
        | cons h7 h8 =>
          cases h8
          obtain ⟨m, rfl, hm⟩ := ty_in u23 h1
          obtain ⟨q, rfl, hq⟩ := ty_in u24 h3
          obtain ⟨b, rfl, hb⟩ := ty_in u25 h5
          obtain ⟨n, rfl, _⟩ := ty_int u3 h7
          exact ⟨m, q, b, n, rfl, hm, hq, hb⟩

theorem ty_syn {cells : List V} (h : Ty Tryz.prog 30 cells) : ∃ hole sa av, cells = [.bool hole, sa] ∧ IsAs av sa := by
  cases ty_struct s30 h with
  | cons h1 h2 => cases h2 with
    | cons h3 h4 =>
      cases h4
      obtain ⟨b, rfl⟩ := ty_bool u4 h1
      obtain ⟨sa, av, rfl, ha⟩ := ty_as h3
      exact ⟨b, sa, av, rfl, ha⟩

theorem kn_ok : KnOk Tryz.prog ks := by
  have hm : ((5, [], (.bool true)) : FuncId × List V × V) ∈ Tb.t13 := List.mem_append_left _ (List.mem_cons_self ..)
  have h5 := Tb.ok13 _ hm
  have hk : ∀ (f : FuncId) (args : List V) (v : V), ks.call f args = some v → f = 5 ∧ args = [] ∧ v = .bool true := by
    intro f args v h
    by_cases hc : f = 5 ∧ args = []
    · have h' : (if f = 5 ∧ args = [] then some (V.bool true) else none) = some v := h
      rw [if_pos hc] at h'
      exact ⟨hc.1, hc.2, (Option.some.inj h').symm⟩
    · have h' : (if f = 5 ∧ args = [] then some (V.bool true) else none) = some v := h
      rw [if_neg hc] at h'
      cases h'
  refine ⟨fun f args v h => ?_, fun f args v h => ?_⟩
  · obtain ⟨rfl, rfl, rfl⟩ := hk f args v h
    exact h5.2
  · obtain ⟨rfl, rfl, rfl⟩ := hk f args v h
    exact h5.1

theorem idle_none : IdleOk Tryz.prog ks := fun f h => by cases h

/-- The ghost of what came in. -/
def gIn (w : World) : G := ⟨World.imm w, fun _ => 0, fun _ => 0, fun _ => 0⟩

theorem wr_in (w : World) : WR (gIn w) H.empty.get 0 w where
  imm _ _ _ h := h
  blk r hr := absurd hr (Nat.not_lt_zero r)
  inj r _ hr := absurd hr (Nat.not_lt_zero r)

/-- The call, whatever comes in. -/
theorem f3_calls {s : V} {ls : List ByteArray} (hs' : IsSs ls s) (hln : ls.length ≤ maxLen) {av : List (ByteArray × Int)} {sa : V} (hsa : IsAs av sa) {m q b : V} (hm : IsIn m) (hq : IsIn q) (hb : IsIn b) (n : Int) (hole : Bool)
    {W : World} {args : Array Value} (hv : vrl (World.imm W) At.bot [s, sto m q b n, .agg [.bool hole, sa]] args.toList) :
    Calls Tryz.prog 3 args W fun e W' => e = .returned (.bool true) ∧ Below W.heap.size W W' := by
  obtain ⟨h1, hc⟩ := f3 hs' (by have : maxLen < 9223372036854775808 := by decide
                                omega) hsa hm hq hb n hole
  have hcall := (EV_sound kn_ok idle_none Tb.name_ok hc).2 (gIn W) args W H.wf_empty (wr_in W) (vrl_mono (Imm.le_refl _) (At.bot_le _) hv)
  refine (callsIn_wide.1 hcall).mono fun e W' ⟨x, r, hr, he, g', hwf, hWR, hE, hx⟩ => ?_
  obtain rfl := List.mem_singleton.1 hr
  have hx' : x = .bool true := by simpa [R.v, vr] using hx
  refine ⟨?_, ⟨hE.os, hE.tape, hE.output, hE.size, fun k hk => hE.frame k hk ?_⟩⟩
  · rw [hx'] at he
    exact he
  · rintro ⟨r, hr, _⟩
    exact absurd hr (Nat.not_lt_zero r)
end Go.Proofs.YtelobjfgghlkfaaGreat.El
