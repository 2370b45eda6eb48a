/- The abstract evaluator: operations that touch no block. -/
import Derived.Test.YtelobjfgghlkfaaGreatA2
import Derived.Laws.StructEq
import Derived.IntWalk
set_option linter.all false
noncomputable section
namespace Go.Ae
variable {P : Program}

/-! ### Types -/
theorem und_some {t : TypeId} {d : TypeDesc} (h : und P t = d) (hd : d ≠ .invalid) : P.underlying t = some d := by
  unfold und at h
  cases hu : P.underlying t with
  | none => rw [hu] at h; exact absurd h.symm hd
  | some d' => rw [hu] at h; simp at h; rw [h]
theorem run_und {t : TypeId} {d : TypeDesc} (h : und P t = d) (hd : d ≠ .invalid) (w : World) : (underlying t).run P w = .ok d w := run_underlying (und_some h hd) w
theorem run_okU {t : TypeId} (h : okU P t = true) (w : World) : (underlying t).run P w = .ok (und P t) w := by
  unfold okU at h
  cases hu : P.underlying t with
  | none => rw [hu] at h; cases h
  | some d => rw [run_underlying hu w]; simp [und, hu]
theorem okU_of_und {t : TypeId} {d : TypeDesc} (h : und P t = d) (hd : d ≠ .invalid) : okU P t = true := by simp [okU, und_some h hd]
theorem run_szOf {t : TypeId} (h : okT P t = true) (w : World) : (sizeOf t).run P w = .ok (szOf P t) w := by
  unfold okT at h
  cases hu : P.info? t with
  | none => rw [hu] at h; cases h
  | some i => simp [sizeOf, typeInfo, program, szOf, hu, Sem.run, Result.andThen]
theorem run_info {t : TypeId} (h : okT P t = true) (w : World) : ∃ i, (typeInfo t).run P w = .ok i w ∧ i.size = szOf P t ∧ i.bytes = bytesOf P t := by
  unfold okT at h
  cases hu : P.info? t with
  | none => rw [hu] at h; cases h
  | some i => exact ⟨i, by simp [typeInfo, program, hu, Sem.run, Result.andThen], by simp [szOf, hu], by simp [bytesOf, hu]⟩
theorem okT_of_und {t : TypeId} {d : TypeDesc} (h : und P t = d) (hd : d ≠ .invalid) : okT P t = true := by
  have := und_some h hd
  unfold Program.underlying at this
  unfold okT
  cases hu : P.info? t with
  | none => rw [hu] at this; cases this
  | some i => rfl
theorem okT_of_okZ {t : TypeId} (h : okZ P t = true) : okT P t = true := by
  unfold okZ at h; unfold okT
  cases hu : P.info? t with
  | none => rw [hu] at h; cases h
  | some i => rfl
theorem run_zero {t : TypeId} {z : V} (h : zeroOf P t = some z) (w : World) : ∃ x, (zeroValue t).run P w = .ok x w ∧ ∀ I A, vr I A z x := by
  unfold zeroOf at h
  cases hu : P.info? t with
  | none => rw [hu] at h; cases h
  | some i =>
    rw [hu] at h
    cases hz : i.zero with
    | none => simp [hz] at h
    | some x =>
      simp [hz] at h
      exact ⟨x, by simp [zeroValue, typeInfo, program, hu, hz, Sem.run, Result.andThen], fun I A => vr_ofValue h⟩
theorem run_okZ {t : TypeId} (h : okZ P t = true) (w : World) : ∃ x, (zeroValue t).run P w = .ok x w ∧ x.cells.size = szOf P t := by
  unfold okZ at h
  cases hu : P.info? t with
  | none => rw [hu] at h; cases h
  | some i =>
    rw [hu] at h
    cases hz : i.zero with
    | none => simp [hz] at h
    | some x => simp [hz] at h; exact ⟨x, by simp [zeroValue, typeInfo, program, hu, hz, Sem.run, Result.andThen], h⟩
theorem run_isAgg {t : TypeId} (h : okU P t = true) (w : World) : (isAgg t).run P w = .ok (isAggT P t) w := by
  unfold isAgg isAggT
  rw [Sem.run_bind, run_okU h w]
  simp only [Result.andThen]
  cases und P t <;> rfl
theorem okU_of_agg {t : TypeId} (h : isAggT P t = true) : okU P t = true := by
  unfold isAggT at h
  cases hd : und P t with
  | struct fs => exact okU_of_und hd (by simp)
  | array n e => exact okU_of_und hd (by simp)
  | _ => rw [hd] at h; cases h
theorem okT_of_agg {t : TypeId} (h : isAggT P t = true) : okT P t = true := by
  unfold isAggT at h
  cases hd : und P t with
  | struct fs => exact okT_of_und hd (by simp)
  | array n e => exact okT_of_und hd (by simp)
  | _ => rw [hd] at h; cases h

/-! ### Operands -/
section
variable {I : Imm} {A : At} {regs : T V} {a : Act}

theorem rd_vr (hR : RR I A regs a.tmps) {x : Operand} {v : V} (h : rd regs x = some v) : vr I A v (a.eval x) := by
  cases x with
  | tmp t => simp [rd] at h; subst h; exact hR.val t
  | const c => exact vr_ofValue h
  | global g => cases h
  | func f => simp [rd] at h; subst h; simp only [vr]; exact ⟨.func f, #[], #[], rfl, rfl, by simp [vrl], by simp [vrl]⟩

theorem rds_vrl (hR : RR I A regs a.tmps) : ∀ {xs : List Operand} {vs : List V}, rds regs xs = some vs → vrl I A vs (xs.map a.eval)
  | [], vs, h => by simp [rds] at h; subst h; simp [vrl]
  | x :: xs, vs, h => by
    simp only [rds] at h
    cases h1 : rd regs x with
    | none => simp [h1] at h
    | some v =>
      cases h2 : rds regs xs with
      | none => simp [h1, h2] at h
      | some us =>
        simp [h1, h2] at h; subst h
        simp only [List.map_cons, vrl]
        exact ⟨_, _, rfl, rd_vr hR h1, rds_vrl hR h2⟩

theorem rds_map (hR : RR I A regs a.tmps) {xs : Array Operand} {vs : List V} (h : rds regs xs.toList = some vs) : vrl I A vs (xs.map a.eval).toList := by
  rw [Array.toList_map]; exact rds_vrl hR h

theorem rd1_some {x : Operand} {k : V → Option Eff} {e : Eff} (h : rd1 regs x k = some e) : ∃ v, rd regs x = some v ∧ k v = some e := by
  unfold rd1 at h
  cases h1 : rd regs x with
  | none => rw [h1] at h; cases h
  | some v => rw [h1] at h; exact ⟨v, rfl, h⟩
theorem rd2_some {x y : Operand} {k : V → V → Option Eff} {e : Eff} (h : rd2 regs x y k = some e) : ∃ v u, rd regs x = some v ∧ rd regs y = some u ∧ k v u = some e := by
  unfold rd2 at h
  cases h1 : rd regs x with
  | none => rw [h1] at h; cases h
  | some v =>
    cases h2 : rd regs y with
    | none => rw [h1, h2] at h; cases h
    | some u => rw [h1, h2] at h; exact ⟨v, u, rfl, rfl, h⟩
end

theorem val_some {x : Option V} {e : Eff} (h : val x = some e) : ∃ v, x = some v ∧ e = { v } := by
  unfold val at h
  cases x with
  | none => cases h
  | some v => simp at h; exact ⟨v, rfl, h.symm⟩

/-! ### What an operation comes to -/
/-- It gives a value (or none). -/
def Gives (P : Program) (o : Oper) (a : Act) (w : World) (x : Value) (w' : World) : Prop :=
  (execOp a.eval o).run P w = .ok (.value x) w' ∨ ((execOp a.eval o).run P w = .ok .skip w' ∧ x = undef)

def updW (get : Nat → Blk) : List (Nat × Blk) → Nat → Blk
  | [] => get
  | (r, b) :: l => updW (upd get r b) l
def updN (get : Nat → Blk) (nid : Nat) : List Blk → Nat → Blk
  | [] => get
  | b :: l => updN (upd get nid b) (nid + 1) l
def Eff.upd (e : Eff) (get : Nat → Blk) (nid : Nat) : Nat → Blk := updN (updW get e.wr) nid e.nw
def Eff.top (e : Eff) (n nid : Nat) : Nat := match e.nw with | [] => n | l => max n (nid + l.length)

/-- What is asked of an operation. -/
def Comes1 (P : Program) (o : Oper) (a : Act) (g : G) (get : Nat → Blk) (n : Nat) (w : World) (nid : Nat) (e : Eff) : Prop :=
  ∃ x w' g', Gives P o a w x w' ∧ WR g' (e.upd get nid) (e.top n nid) w' ∧ Ext g get n w g' (e.upd get nid) (e.top n nid) w' ∧ vr g'.I (g'.at (e.upd get nid) (e.top n nid)) e.v x

theorem comes_same {o : Oper} {a : Act} {g : G} {get : Nat → Blk} {n : Nat} {w : World} {nid : Nat} {v : V} {rs : List Nat} {p : Bool} {x : Value} (hW : WR g get n w)
    (hg : (execOp a.eval o).run P w = .ok (.value x) w) (hv : vr g.I (g.at get n) v x) : Comes1 P o a g get n w nid { v, rd := rs, pan := p } :=
  ⟨x, w, g, .inl hg, hW, Ext.refl _ _ _ _, hv⟩

theorem run_v {o : Oper} {a : Act} {s : Sem Value} {x : Value} {w w' : World} (he : execOp a.eval o = (do pure (.value (← s)))) (h : s.run P w = .ok x w') : (execOp a.eval o).run P w = .ok (.value x) w' := by
  rw [he, Sem.run_bind, h]; rfl
theorem run_u {o : Oper} {a : Act} {s : Sem Unit} {w w' : World} (he : execOp a.eval o = (do s; pure .skip)) (h : s.run P w = .ok () w') : (execOp a.eval o).run P w = .ok .skip w' := by
  rw [he, Sem.run_bind, h]; rfl

end Go.Ae

/- The abstract evaluator: parts of values; cells. -/
namespace Go.Ae
variable {P : Program}

theorem addr_add (b o i : Nat) : (⟨b, o, none⟩ : Addr).add i = ⟨b, o + i, none⟩ := by
  unfold Addr.add
  split
  · rename_i h; subst h; rfl
  · rfl

theorem extract_list (ys : Array Value) (i n : Nat) : (ys.extract i (i + n)).toList = (ys.toList.drop i).take n := by
  rw [Array.toList_extract, List.extract_eq_take_drop]
  congr 1
  omega

theorem run_part {I : Imm} {A : At} {cs : List V} {ys : Array Value} (h : vrl I A cs ys.toList) {t : TypeId} {off : Nat} {v : V} (hl : loadV P t (cs.drop off) = some v) (w : World) :
    ∃ x, (part t ys off).run P w = .ok x w ∧ vr I A v x := by
  unfold loadV at hl
  by_cases ha : isAggT P t = true
  · rw [if_pos ha] at hl
    split at hl
    · rename_i hle
      obtain rfl := Option.some.inj hl
      refine ⟨.agg (ys.extract off (off + szOf P t)), ?_, ?_⟩
      · unfold part
        rw [Sem.run_bind, run_isAgg (okU_of_agg ha) w]
        simp only [Result.andThen, ha, if_true, Sem.run_bind, run_szOf (okT_of_agg ha) w, Sem.run_pure]
      · simp only [vr]
        exact ⟨_, rfl, by rw [extract_list]; exact vrl_take (vrl_drop h off) _⟩
    · cases hl
  · rw [if_neg ha] at hl
    split at hl
    · rename_i hu
      rw [List.head?_drop] at hl
      obtain ⟨x, hx, hv⟩ := vrl_get h hl
      refine ⟨x, ?_, hv⟩
      unfold part
      rw [Sem.run_bind, run_isAgg hu w]
      have hf : isAggT P t = false := by simpa using ha
      have hx' : ys[off]? = some x := by simpa using hx
      simp only [Result.andThen, hf, Bool.false_eq_true, if_false, hx', Sem.run_pure]
    · cases hl

/-- Cells that hold values. -/
def Holds (w : World) (b o : Nat) (xs : List Value) : Prop := ∀ (i : Nat) (x : Value), xs[i]? = some x → w.cell? ⟨b, o + i, none⟩ = some x

theorem Holds.take {w : World} {b o : Nat} {xs : List Value} (h : Holds w b o xs) (n : Nat) : Holds w b o (xs.take n) := fun i x hx => by
  rw [List.getElem?_take] at hx
  split at hx
  · exact h i x hx
  · cases hx
theorem Holds.drop {w : World} {b o : Nat} {xs : List Value} (h : Holds w b o xs) (n : Nat) : Holds w b (o + n) (xs.drop n) := fun i x hx => by
  rw [List.getElem?_drop] at hx
  have := h _ x hx
  rwa [← Nat.add_assoc] at this

theorem Holds.load {w : World} {b o : Nat} {xs : List Value} (h : Holds w b o xs) : (loadCells ⟨b, o, none⟩ xs.length).run P w = .ok xs.toArray w :=
  run_loadCells_list w _ xs fun j v hv => by rw [addr_add]; exact h j v hv

theorem run_loadVar {I : Imm} {A : At} {cs : List V} {xs : List Value} {w : World} {b o : Nat} (hc : vrl I A cs xs) (hh : Holds w b o xs) {t : TypeId} {v : V} (hl : loadV P t cs = some v) :
    ∃ x, (loadVar t ⟨b, o, none⟩).run P w = .ok x w ∧ vr I A v x := by
  unfold loadV at hl
  by_cases ha : isAggT P t = true
  · rw [if_pos ha] at hl
    split at hl
    · rename_i hle
      obtain rfl := Option.some.inj hl
      have hlen : (xs.take (szOf P t)).length = szOf P t := by rw [List.length_take, vrl_len hc]; omega
      have := (hh.take (szOf P t)).load (P := P)
      rw [hlen] at this
      refine ⟨.agg (xs.take (szOf P t)).toArray, ?_, ?_⟩
      · unfold loadVar
        rw [Sem.run_bind, run_isAgg (okU_of_agg ha) w]
        simp only [Result.andThen, ha, if_true, Sem.run_bind, run_szOf (okT_of_agg ha) w, this, Sem.run_pure]
      · simp only [vr]
        exact ⟨_, rfl, vrl_take hc _⟩
    · cases hl
  · rw [if_neg ha] at hl
    split at hl
    · rename_i hu
      rw [List.head?_eq_getElem?] at hl
      obtain ⟨x, hx, hv⟩ := vrl_get hc hl
      refine ⟨x, ?_, hv⟩
      have := hh 0 x hx
      unfold loadVar
      rw [Sem.run_bind, run_isAgg hu w]
      have hf : isAggT P t = false := by simpa using ha
      simp only [Result.andThen, hf, Bool.false_eq_true, if_false]
      unfold load
      simp only [Sem.run]
      rw [Nat.add_zero] at this
      rw [this]
    · cases hl

theorem holds_imm {I : Imm} {w : World} (hi : ∀ b o x, I b o = some x → w.cell? ⟨b, o, none⟩ = some x) {b o : Nat} {cs : List V} (h : vra I b o cs) : ∃ xs, vrl I At.bot cs xs ∧ Holds w b o xs := by
  obtain ⟨xs, h1, h2⟩ := vra_vals h
  exact ⟨xs, h1, fun i x hx => hi _ _ _ (h2 i x hx)⟩

/-- The cells of a row. -/
theorem row_vals {g : G} {get : Nat → Blk} {n : Nat} {w : World} (h : WR g get n w) {r k : Nat} {cs : List V} (hr : r < n) (hg : get r = .row k cs) :
    ∃ c el xs, w.heap[g.mu r]? = some (.cells c el (0, 0)) ∧ c.size = g.ts r ∧ g.base r + cs.length ≤ c.size ∧ vrl g.I (g.at get n) cs xs ∧ xs = (c.toList.drop (g.base r)).take cs.length ∧ Holds w (g.mu r) (g.base r) xs ∧ ∀ o, g.base r + k ≤ o → g.I (g.mu r) o = none := by
  have hb := h.blk r hr
  rw [hg] at hb
  obtain ⟨c, el, h1, h2, h3, h4, h5⟩ := hb
  refine ⟨c, el, (c.toList.drop (g.base r)).take cs.length, h1, h2, h3, ?_, rfl, ?_, h5⟩
  · refine vrl_of_get ?_ fun i v hv => ?_
    · simp only [List.length_take, List.length_drop, Array.length_toList]; omega
    · obtain ⟨x, hx, hvr⟩ := h4 i v hv
      have hi : i < cs.length := (List.getElem?_eq_some_iff.1 hv).1
      exact ⟨x, by rw [List.getElem?_take, if_pos hi, List.getElem?_drop]; simpa using hx, hvr⟩
  · intro i x hx
    rw [List.getElem?_take] at hx
    split at hx
    · rw [List.getElem?_drop] at hx
      unfold World.cell?
      rw [h1]
      simpa using hx
    · cases hx

end Go.Ae

/- The abstract evaluator: operations that touch no block. -/
namespace Go.Ae
variable {P : Program}

/-! ### Building -/
theorem foldl_seg (off : Nat) : ∀ (l : List Value) (k : Nat) (cells : Array Value), off + k + l.length ≤ cells.size →
    ((l.zipIdx k).foldl (fun cs (p : Value × Nat) => cs.setIfInBounds (off + p.2) p.1) cells).toList = cells.toList.take (off + k) ++ l ++ cells.toList.drop (off + k + l.length)
  | [], k, cells, _ => by simp
  | v :: l, k, cells, h => by
    simp only [List.length_cons] at h
    rw [List.zipIdx_cons, List.foldl_cons, foldl_seg off l (k + 1) _ (by rw [Array.size_setIfInBounds]; omega), Array.toList_setIfInBounds]
    have := list_seg_step cells.toList (off + k) v l (by rw [Array.length_toList]; omega)
    rw [show off + (k + 1) = off + k + 1 by omega]
    rw [this]
    simp only [List.length_cons]

theorem fill_sound {I : Imm} {A : At} {place : Nat → Option (Nat × Nat)} : ∀ {parts : List (Nat × V)} {parts' : List (Nat × Value)} {cells : List V} {cells' : Array Value} {out : List V},
    parts'.map (·.1) = parts.map (·.1) → vrl I A (parts.map (·.2)) (parts'.map (·.2)) → vrl I A cells cells'.toList → fillV place cells parts = some out →
    ∃ out', Instr.fill place cells' parts' = some out' ∧ vrl I A out out'.toList
  | [], parts', cells, cells', out, h1, h2, h3, h4 => by
    have : parts' = [] := by simpa using h1
    subst this
    simp only [fillV] at h4
    obtain rfl := Option.some.inj h4
    exact ⟨cells', rfl, h3⟩
  | (i, v) :: rest, parts', cells, cells', out, h1, h2, h3, h4 => by
    cases parts' with
    | nil => simp at h1
    | cons p parts' =>
      obtain ⟨i', x⟩ := p
      simp only [List.map_cons, List.cons.injEq] at h1
      obtain ⟨rfl, h1⟩ := h1
      simp only [List.map_cons, vrl] at h2
      obtain ⟨x', xs, he, hv, h2⟩ := h2
      obtain ⟨rfl, rfl⟩ := List.cons.inj he
      simp only [fillV] at h4
      unfold Instr.fill
      cases hp : place i' with
      | none => simp [hp] at h4
      | some os =>
        obtain ⟨off, size⟩ := os
        simp only [hp] at h4 ⊢
        split at h4
        · rename_i hsz
          cases hs : splice cells v.cells off with
          | none => simp [hs] at h4
          | some cs =>
            simp only [hs] at h4
            have hc := vr_cells hv
            obtain ⟨hle, hsp⟩ := vrl_splice h3 hc hs
            have hl1 : x.cells.size = v.cells.length := by rw [← Array.length_toList]; exact vrl_len hc
            have hl2 : cells'.size = cells.length := by rw [← Array.length_toList]; exact vrl_len h3
            rw [if_neg (by simp; omega)]
            have hfold : (x.cells.zipIdx.foldl (fun cs (c, j) => cs.setIfInBounds (off + j) c) cells').toList = cells'.toList.take off ++ x.cells.toList ++ cells'.toList.drop (off + x.cells.toList.length) := by
              have := foldl_seg off x.cells.toList 0 cells' (by rw [Array.length_toList]; omega)
              simp only [Nat.add_zero] at this
              rw [← this, ← Array.foldl_toList, Array.toList_zipIdx]
            refine fill_sound h1 h2 ?_ h4
            rw [hfold]
            exact hsp
        · cases h4

theorem splice_len {cs new cs' : List V} {off : Nat} (h : splice cs new off = some cs') : cs'.length = cs.length := by
  unfold splice at h
  split at h
  · rename_i hle
    obtain rfl := Option.some.inj h
    simp only [List.length_append, List.length_take, List.length_drop]
    omega
  · cases h

theorem fillV_len {place : Nat → Option (Nat × Nat)} : ∀ {parts : List (Nat × V)} {cells out : List V}, fillV place cells parts = some out → out.length = cells.length
  | [], cells, out, h => by simp only [fillV] at h; obtain rfl := Option.some.inj h; rfl
  | (i, v) :: rest, cells, out, h => by
    simp only [fillV] at h
    cases hp : place i with
    | none => simp [hp] at h
    | some os =>
      obtain ⟨off, size⟩ := os
      simp only [hp] at h
      split at h
      · cases hs : splice cells v.cells off with
        | none => simp [hs] at h
        | some cs => simp only [hs] at h; rw [fillV_len h, splice_len hs]
      · cases h

theorem rdParts_sound {I : Imm} {A : At} {regs : T V} {a : Act} (hR : RR I A regs a.tmps) : ∀ {ps : List (Nat × Operand)} {vs : List (Nat × V)}, rdParts regs ps = some vs →
    (ps.map fun (p : Nat × Operand) => (p.1, a.eval p.2)).map (·.1) = vs.map (·.1) ∧ vrl I A (vs.map (·.2)) ((ps.map fun (p : Nat × Operand) => (p.1, a.eval p.2)).map (·.2))
  | [], vs, h => by simp [rdParts] at h; subst h; simp [vrl]
  | (i, x) :: ps, vs, h => by
    simp only [rdParts] at h
    cases h1 : rd regs x with
    | none => simp [h1] at h
    | some v =>
      cases h2 : rdParts regs ps with
      | none => simp [h1, h2] at h
      | some us =>
        simp [h1, h2] at h; subst h
        obtain ⟨k1, k2⟩ := rdParts_sound hR h2
        refine ⟨by simpa using k1, ?_⟩
        simp only [List.map_cons, vrl]
        exact ⟨_, _, rfl, rd_vr hR h1, k2⟩

theorem mapM_places (w : World) : ∀ (fs : List Field), fs.all (fun f => okT P f.type) = true →
    (fs.mapM fun f => (do pure (f.offset, ← sizeOf f.type) : Sem (Nat × Nat))).run P w = .ok (fs.map fun f => (f.offset, szOf P f.type)) w
  | [], _ => rfl
  | f :: fs, h => by
    simp only [List.all_cons, Bool.and_eq_true] at h
    rw [List.mapM_cons, Sem.run_bind]
    simp only [Sem.run_bind, run_szOf h.1 w, Result.andThen, Sem.run_pure, mapM_places w fs h.2, List.map_cons]

theorem mapM_arr (w : World) (fs : List Field) (h : fs.all (fun f => okT P f.type) = true) :
    (fs.toArray.mapM fun f => (do pure (f.offset, ← sizeOf f.type) : Sem (Nat × Nat))).run P w = .ok (fs.map fun f => (f.offset, szOf P f.type)).toArray w := by
  rw [List.mapM_toArray, Sem.run_map, mapM_places w fs h]; rfl

theorem build_sound {I : Imm} {A : At} {t : TypeId} {vs : List (Nat × V)} {xs : Array (Nat × Value)} (h1 : xs.toList.map (·.1) = vs.map (·.1)) (h2 : vrl I A (vs.map (·.2)) (xs.toList.map (·.2))) {v : V} (h : build P t vs = some v) (w : World) :
    ∃ x, (Instr.build t xs).run P w = .ok x w ∧ vr I A v x := by
  unfold build at h
  cases hz : zeroOf P t with
  | none => simp [hz] at h
  | some z =>
    obtain ⟨zx, hzr, hzv⟩ := run_zero hz w
    have hzc := vr_cells (hzv I A)
    simp only [hz] at h
    unfold Instr.build
    rw [Sem.run_bind, hzr]
    simp only [Result.andThen, Sem.run_bind]
    cases hd : und P t with
    | struct fs =>
      simp only [hd] at h
      split at h
      · rename_i hok
        cases hf : fillV (fun i => fs.toList[i]?.map fun f => (f.offset, szOf P f.type)) z.cells vs with
        | none => rw [hf] at h; cases h
        | some cs =>
          rw [hf] at h; obtain rfl := Option.some.inj h
          rw [run_und hd (by simp) w]
          have hm' := mapM_arr (P := P) w fs.toList hok
          rw [Array.toArray_toList] at hm'
          simp only [Result.andThen, Sem.run_bind, hm']
          obtain ⟨out', e1, e2⟩ := fill_sound (place := fun i => fs.toList[i]?.map fun f => (f.offset, szOf P f.type)) h1 h2 hzc hf
          have hpl : (fun i : Nat => (fs.toList.map fun f => (f.offset, szOf P f.type)).toArray[i]?) = fun i => fs.toList[i]?.map fun f => (f.offset, szOf P f.type) := by
            funext i; simp
          rw [hpl, e1]
          exact ⟨.agg out', rfl, by simp only [vr]; exact ⟨out', rfl, e2⟩⟩
      · cases h
    | array m el =>
      simp only [hd] at h
      split at h
      · rename_i hok
        cases hf : fillV (fun i => some (i * szOf P el, szOf P el)) z.cells vs with
        | none => rw [hf] at h; cases h
        | some cs =>
          rw [hf] at h; obtain rfl := Option.some.inj h
          rw [run_und hd (by simp) w]
          simp only [Result.andThen, Sem.run_bind, run_szOf hok w]
          obtain ⟨out', e1, e2⟩ := fill_sound (place := fun i => some (i * szOf P el, szOf P el)) h1 h2 hzc hf
          rw [e1]
          exact ⟨.agg out', rfl, by simp only [vr]; exact ⟨out', rfl, e2⟩⟩
      · cases h
    | _ => simp [hd] at h

/-! ### Slices -/
theorem bd_sound {I : Imm} {A : At} {v : V} {x : Value} (hv : vr I A v x) {i : Int} (hi : asI v = some i) {y : Nat} (h0 : 0 ≤ i) (hy : i ≤ y) (code : BoundsCode) (w : World) : (Instr.sliceBound x y code).run P w = .ok i.toNat w := by
  cases v with
  | int k n =>
    simp [asI] at hi; subst hi
    simp only [vr] at hv; subst hv
    simp [Instr.sliceBound, asIntOf, h0, hy]
  | _ => cases hi

def optR (I : Imm) (A : At) : Option V → Option Value → Prop
  | none, none => True
  | some v, some x => vr I A v x
  | _, _ => False

theorem bd1_some {d : Option Nat} {y : Nat} {v : Option V} {k : Nat} (h : bd1 d y v = some k) : (v = none ∧ d = some k) ∨ ∃ u i, v = some u ∧ asI u = some i ∧ 0 ≤ i ∧ i ≤ y ∧ k = i.toNat := by
  unfold bd1 at h
  cases v with
  | none => exact .inl ⟨rfl, h⟩
  | some u =>
    cases hi : asI u with
    | none => simp [hi] at h
    | some i =>
      simp only [hi] at h
      split at h
      · rename_i hc; exact .inr ⟨u, i, rfl, hi, hc.1, hc.2, (Option.some.inj h).symm⟩
      · cases h

theorem bds_sound {I : Imm} {A : At} {lo hi mx : Option V} {lo' hi' mx' : Option Value} (hlo : optR I A lo lo') (hhi : optR I A hi hi') (hmx : optR I A mx mx') {len cap cap' l h m : Nat}
    (hs : sliceBds len cap lo hi mx = some (l, h, m)) (hcap : cap ≤ cap') (hlen : len ≤ cap) (isSlice : Bool) (w : World) :
    (Instr.sliceBounds isSlice len cap' lo' hi' mx').run P w = .ok (l, h, if mx.isSome then m else cap') w ∧ l ≤ h ∧ h ≤ m ∧ m ≤ cap ∧ (mx = none → m = cap) ∧ (hi = none → h = len) := by
  unfold sliceBds at hs
  cases h1 : bd1 (some cap) cap mx with
  | none => rw [h1] at hs; cases hs
  | some m0 =>
    cases h2 : bd1 (if mx.isSome then none else some len) m0 hi with
    | none => simp [h1, h2] at hs
    | some h0 =>
      cases h3 : bd1 (some 0) h0 lo with
      | none => simp [h1, h2, h3] at hs
      | some l0 =>
        simp only [h1, h2, h3, Option.some.injEq, Prod.mk.injEq] at hs
        obtain ⟨rfl, rfl, rfl⟩ := hs
        unfold Instr.sliceBounds
        rcases bd1_some h1 with ⟨rfl, e1⟩ | ⟨mu, mi, rfl, m1, m2, m3, rfl⟩
        · cases mx' with
          | some _ => exact hmx.elim
          | none =>
            obtain rfl := Option.some.inj e1
            rcases bd1_some h2 with ⟨rfl, e2⟩ | ⟨hu, hi1, rfl, k1, k2, k3, rfl⟩
            · cases hi' with
              | some _ => exact hhi.elim
              | none =>
                have e2' : len = h0 := by simpa using e2
                subst e2'
                rcases bd1_some h3 with ⟨rfl, e3⟩ | ⟨lu, li, rfl, j1, j2, j3, rfl⟩
                · cases lo' with
                  | some _ => exact hlo.elim
                  | none =>
                    obtain rfl := Option.some.inj e3
                    refine ⟨by simp, ?_⟩
                    omega
                · cases lo' with
                  | none => exact hlo.elim
                  | some lx =>
                    refine ⟨by simp [bd_sound (P := P) hlo j1 j2 j3 _ w], ?_⟩
                    omega
            · cases hi' with
              | none => exact hhi.elim
              | some hx =>
                have hb := bd_sound (P := P) hhi k1 k2 (y := cap') (by omega) (if isSlice then .sliceAcap else .sliceAlen) w
                rcases bd1_some h3 with ⟨rfl, e3⟩ | ⟨lu, li, rfl, j1, j2, j3, rfl⟩
                · cases lo' with
                  | some _ => exact hlo.elim
                  | none =>
                    obtain rfl := Option.some.inj e3
                    refine ⟨by simp [hb], ?_⟩
                    simp; omega
                · cases lo' with
                  | none => exact hlo.elim
                  | some lx =>
                    refine ⟨by simp [hb, bd_sound (P := P) hlo j1 j2 j3 _ w], ?_⟩
                    simp; omega
        · cases mx' with
          | none => exact hmx.elim
          | some mxx =>
            have hbm := bd_sound (P := P) hmx m1 m2 (y := cap') (by omega) (if isSlice then .slice3Acap else .slice3Alen) w
            rcases bd1_some h2 with ⟨rfl, e2⟩ | ⟨hu, hi1, rfl, k1, k2, k3, rfl⟩
            · simp at e2
            · cases hi' with
              | none => exact hhi.elim
              | some hx =>
                have hb := bd_sound (P := P) hhi k1 k2 k3 .slice3B w
                rcases bd1_some h3 with ⟨rfl, e3⟩ | ⟨lu, li, rfl, j1, j2, j3, rfl⟩
                · cases lo' with
                  | some _ => exact hlo.elim
                  | none =>
                    obtain rfl := Option.some.inj e3
                    refine ⟨by simp [hbm, hb], ?_⟩
                    simp; omega
                · cases lo' with
                  | none => exact hlo.elim
                  | some lx =>
                    refine ⟨by simp [hbm, hb, bd_sound (P := P) hlo j1 j2 j3 _ w], ?_⟩
                    simp; omega

end Go.Ae

/- The abstract evaluator: slices, addresses, parts. -/
namespace Go.Ae
variable {P : Program}

theorem mul_split {l h sz : Nat} (hl : l ≤ h) : l * sz + (h - l) * sz = h * sz := by
  rw [← Nat.add_mul]; congr 1; omega

theorem seg_len {α : Type} {cs : List α} {len sz l h : Nat} (hc : cs.length = len * sz) (hl : l ≤ h) (hh : h ≤ len) : ((cs.drop (l * sz)).take ((h - l) * sz)).length = (h - l) * sz := by
  have h1 := mul_split (sz := sz) hl
  have h2 : h * sz ≤ len * sz := Nat.mul_le_mul_right _ hh
  rw [List.length_take, List.length_drop, hc]
  omega

section
variable {g : G} {get : Nat → Blk} {n : Nat}

theorem sliceV_sound {t : TypeId} {x : V} {x' : Value} (hx : vr g.I (g.at get n) x x') {lo hi mx : Option V} {lo' hi' mx' : Option Value} (hlo : optR g.I (g.at get n) lo lo') (hhi : optR g.I (g.at get n) hi hi') (hmx : optR g.I (g.at get n) mx mx')
    {v : V} (hs : sliceV P t x lo hi mx = some v) (w : World) : ∃ y, (Instr.sliceAt t x' lo' hi' mx').run P w = .ok y w ∧ vr g.I (g.at get n) v y := by
  unfold sliceV at hs
  split at hs
  · -- a string
    rename_i s hd
    split at hs
    · cases hs
    · rename_i hnm
      cases mx with
      | some _ => simp at hnm
      | none =>
        cases mx' with
        | some _ => exact hmx.elim
        | none =>
          cases hb : sliceBds s.size s.size lo hi none with
          | none => simp [hb] at hs
          | some p =>
            obtain ⟨l, h, m⟩ := p
            simp only [hb] at hs
            obtain rfl := Option.some.inj hs
            simp only [vr] at hx; subst hx
            obtain ⟨hr, _⟩ := bds_sound (P := P) hlo hhi (mx := none) (mx' := none) trivial hb (Nat.le_refl _) (Nat.le_refl _) false w
            refine ⟨.string (s.extract l h), ?_, by simp [vr]⟩
            unfold Instr.sliceAt
            rw [Sem.run_bind, run_und hd (by simp) w]
            simp only [Result.andThen]
            unfold Instr.slice
            rw [Sem.run_bind, run_und hd (by simp) w]
            simp only [Result.andThen, Option.isSome_none, Bool.false_eq_true, if_false, Sem.run_bind, Sem.run_pure, hr]
  · -- nil
    rename_i e hd
    split at hs
    · rename_i hok
      cases hb : sliceBds 0 0 lo hi mx with
      | none => simp [hb] at hs
      | some p =>
        obtain ⟨l, h, m⟩ := p
        simp only [hb] at hs
        obtain rfl := Option.some.inj hs
        simp only [vr] at hx; subst hx
        obtain ⟨hr, h1, h2, h3, _⟩ := bds_sound (P := P) hlo hhi hmx hb (Nat.le_refl _) (Nat.le_refl _) true w
        refine ⟨.slice none 0 0, ?_, by simp [vr]⟩
        unfold Instr.sliceAt
        rw [Sem.run_bind, run_und hd (by simp) w]
        simp only [Result.andThen]
        unfold Instr.slice
        rw [Sem.run_bind, run_und hd (by simp) w]
        simp only [Result.andThen, Sem.run_bind, hr, run_szOf hok w, Sem.run_pure]
        have e1 : l = 0 := by omega
        have e2 : h = 0 := by omega
        have e3 : m = 0 := by omega
        subst e1 e2 e3
        cases mx <;> simp
    · cases hs
  · -- an immutable one
    rename_i e cs len sz own hd
    split at hs
    · rename_i hok
      obtain ⟨rfl, hok⟩ := hok
      cases hb : sliceBds len len lo hi mx with
      | none => simp [hb] at hs
      | some p =>
        obtain ⟨l, h, m⟩ := p
        simp only [hb] at hs
        obtain rfl := Option.some.inj hs
        simp only [vr] at hx
        obtain ⟨b, o, cap, rfl, hcap, hlen, hra, hown⟩ := hx
        obtain ⟨hr, h1, h2, h3, h4, h5⟩ := bds_sound (P := P) hlo hhi hmx hb hcap (Nat.le_refl _) true w
        generalize hm' : (if mx.isSome then m else cap) = m' at hr
        have hm1 : m ≤ m' := by rw [← hm']; split <;> omega
        have hm2 : m' ≤ cap := by rw [← hm']; split <;> omega
        refine ⟨.slice (some ⟨b, if m' = l then o else o + l * szOf P e, none⟩) (h - l) (m' - l), ?_, ?_⟩
        · unfold Instr.sliceAt
          rw [Sem.run_bind, run_und hd (by simp) w]
          simp only [Result.andThen]
          unfold Instr.slice
          rw [Sem.run_bind, run_und hd (by simp) w]
          simp only [Result.andThen, Sem.run_bind, hr, run_szOf hok w, Sem.run_pure]
          congr 2
          split
          · rfl
          · simp only [Option.map_some, addr_add]
        · simp only [vr]
          refine ⟨b, _, _, rfl, by omega, seg_len hlen h1 (by omega), ?_, ?_⟩
          · by_cases hml : m' = l
            · have : h - l = 0 := by omega
              rw [this]; simp [vra]
            · rw [if_neg hml]
              exact vra_take (vra_drop hra _) _
          · have k1 := mul_split (sz := szOf P e) h1
            have k2 := mul_split (sz := szOf P e) (l := l) (h := m') (by omega)
            cases mx with
            | some mv =>
              simp only [Option.isSome_some, if_true] at hm' ⊢
              by_cases hmh : m = h
              · rw [if_pos hmh]; show m' - l = h - l; omega
              · rw [if_neg hmh]; trivial
            | none =>
              simp only [Option.isSome_none, Bool.false_eq_true, if_false] at hm' ⊢
              by_cases hhl : h = len
              · rw [if_pos hhl]
                cases own with
                | tight => show m' - l = h - l; have : cap = len := hown; omega
                | lock => trivial
                | tok r e' =>
                  simp only
                  by_cases hlh : l < h
                  · rw [if_pos hlh, if_neg (by omega)]
                    have : (g.at get n).tok r e' b (o + len * szOf P e) (o + cap * szOf P e) := hown
                    show (g.at get n).tok r e' b _ _
                    rw [show o + l * szOf P e + (h - l) * szOf P e = o + len * szOf P e by rw [Nat.add_assoc, k1, hhl], show o + l * szOf P e + (m' - l) * szOf P e = o + cap * szOf P e by rw [Nat.add_assoc, k2, ← hm']]
                    exact this
                  · rw [if_neg hlh]; trivial
              · rw [if_neg hhl]; trivial
    · cases hs
  · -- a row's
    rename_i e r off len cap sz ex hd
    split at hs
    · rename_i hok
      obtain ⟨rfl, hok⟩ := hok
      cases hb : sliceBds len cap lo hi mx with
      | none => simp [hb] at hs
      | some p =>
        obtain ⟨l, h, m⟩ := p
        simp only [hb] at hs
        simp only [vr] at hx
        obtain ⟨a, c, rfl, hr0, hfm, rfl, hlc, hcc, hex, hts⟩ := hx
        obtain ⟨hr, h1, h2, h3, h4, h5⟩ := bds_sound (P := P) hlo hhi hmx hb hcc hlc true w
        generalize hm' : (if mx.isSome then m else c) = m' at hr
        have hm1 : m ≤ m' := by rw [← hm']; split <;> omega
        have hm2 : m' ≤ c := by rw [← hm']; split <;> omega
        refine ⟨.slice (some ⟨g.mu r, if m' = l then g.base r + off else g.base r + off + l * szOf P e, none⟩) (h - l) (m' - l), ?_, ?_⟩
        · unfold Instr.sliceAt
          rw [Sem.run_bind, run_und hd (by simp) w]
          simp only [Result.andThen]
          unfold Instr.slice
          rw [Sem.run_bind, run_und hd (by simp) w]
          simp only [Result.andThen, Sem.run_bind, hr, run_szOf hok w, Sem.run_pure]
          congr 2
          split
          · rfl
          · simp only [Option.map_some, addr_add]
        · by_cases hml : m = l
          · rw [if_pos hml] at hs
            obtain rfl := Option.some.inj hs
            simp only [vr]
            refine ⟨_, _, _, by rw [show h - l = 0 by omega], by omega, by simp, by simp [vra], trivial⟩
          · rw [if_neg hml] at hs
            obtain rfl := Option.some.inj hs
            have hne : m' ≠ l := by omega
            simp only [vr]
            refine ⟨_, _, rfl, hr0, hfm, by rw [if_neg hne, Nat.add_assoc], by omega, by omega, fun he => ?_, ?_⟩
            · cases mx with
              | some mv => simp at hm'; omega
              | none =>
                simp at hm' he
                have := hex he
                have := h4 rfl
                omega
            · have k2 := mul_split (sz := szOf P e) (l := l) (h := m') (by omega)
              have k3 : m' * szOf P e ≤ c * szOf P e := Nat.mul_le_mul_right _ hm2
              omega
    · cases hs
  · cases hs

theorem addrAdd_sound {p : V} {x : Value} (hx : vr g.I (g.at get n) p x) {m : Nat} {v : V} (h : addrAdd p m = some v) : ∃ b o, x = .pointer (some ⟨b, o, none⟩) ∧ vr g.I (g.at get n) v (.pointer (some ⟨b, o + m, none⟩)) := by
  unfold addrAdd at h
  cases p with
  | ptr r off =>
    simp only [vr] at hx
    obtain ⟨a, rfl, h1, h2, rfl⟩ := hx
    obtain rfl := Option.some.inj h
    refine ⟨_, _, rfl, ?_⟩
    simp only [vr]
    exact ⟨_, rfl, h1, h2, by rw [Nat.add_assoc]⟩
  | iptr cs =>
    simp only [vr] at hx
    obtain ⟨b, o, rfl, hra⟩ := hx
    simp only at h
    split at h
    · obtain rfl := Option.some.inj h
      refine ⟨b, o, rfl, ?_⟩
      simp only [vr]
      exact ⟨b, _, rfl, vra_drop hra m⟩
    · cases h
  | _ => cases h

theorem indexAddr_sound {t : TypeId} {x i : V} {x' i' : Value} (hx : vr g.I (g.at get n) x x') (hi : vr g.I (g.at get n) i i') {v : V} (h : indexAddr P t x i = some v) (w : World) : ∃ y, (Instr.indexAt t x' i').run P w = .ok y w ∧ vr g.I (g.at get n) v y := by
  unfold indexAddr at h
  cases i with
  | int k m =>
    simp only [vr] at hi; subst hi
    simp only [asI] at h
    unfold Instr.indexAt
    simp only [asIntOf, Sem.run_bind, Sem.run_pure, Result.andThen]
    split at h
    · rename_i len e hd
      split at h
      · rename_i hc
        obtain ⟨c1, c2, c3⟩ := hc
        obtain ⟨b, o, rfl, hv⟩ := addrAdd_sound hx h
        refine ⟨_, ?_, hv⟩
        rw [run_und hd (by simp) w]
        simp only [Result.andThen, Instr.sureAddr, Sem.run_bind, Sem.run_pure, run_und hd (by simp) w, if_pos (And.intro c1 c2), run_szOf c3 w, addr_add]
      · cases h
    · rename_i e cs len sz own hd
      split at h
      · rename_i hc
        obtain ⟨c1, c2, c3⟩ := hc
        obtain rfl := Option.some.inj h
        simp only [vr] at hx
        obtain ⟨b, o, cap, rfl, _, _, hra, _⟩ := hx
        refine ⟨.pointer (some ⟨b, o + m.toNat * szOf P e, none⟩), ?_, ?_⟩
        · rw [run_und hd (by simp) w]
          simp only [Result.andThen, Sem.run_bind, Sem.run_pure, run_und hd (by simp) w, if_pos (And.intro c1 c2), run_szOf c3 w, addr_add]
        · simp only [vr]; exact ⟨b, _, rfl, vra_drop hra _⟩
      · cases h
    · rename_i e r off len cap sz ex hd
      split at h
      · rename_i hc
        obtain ⟨c1, c2, c3⟩ := hc
        obtain rfl := Option.some.inj h
        simp only [vr] at hx
        obtain ⟨a, c, rfl, hr0, hfm, rfl, _⟩ := hx
        refine ⟨.pointer (some ⟨g.mu r, g.base r + off + m.toNat * szOf P e, none⟩), ?_, ?_⟩
        · rw [run_und hd (by simp) w]
          simp only [Result.andThen, Sem.run_bind, Sem.run_pure, run_und hd (by simp) w, if_pos (And.intro c1 c2), run_szOf c3 w, addr_add]
        · simp only [vr]; exact ⟨_, rfl, hr0, hfm, by rw [Nat.add_assoc]⟩
      · cases h
    · cases h
  | _ => cases h

theorem fieldAt_sound {t : TypeId} {f : Nat} {fd : Field} (hf : fieldOf P t f = some fd) (hz : szOf P fd.type ≠ 0) {p v : V} {x : Value} (hx : vr g.I (g.at get n) p x) (h : addrAdd p fd.offset = some v) (w : World) :
    ∃ y, (Instr.fieldAt t x f).run P w = .ok y w ∧ vr g.I (g.at get n) v y := by
  obtain ⟨b, o, rfl, hv⟩ := addrAdd_sound hx h
  refine ⟨_, ?_, hv⟩
  unfold fieldOf at hf
  cases hd : und P t with
  | struct fs =>
    simp only [hd] at hf
    have hf' : fs[f]? = some fd := by simpa using hf
    have hok : okT P fd.type = true := by
      unfold szOf at hz; unfold okT
      cases hi : P.info? fd.type with
      | none => simp [hi] at hz
      | some i => rfl
    unfold Instr.fieldAt
    rw [Sem.run_bind, run_und hd (by simp) w]
    simp only [Result.andThen, hf', Instr.sureAddr, Sem.run_bind, Sem.run_pure]
    unfold fieldPlace
    simp only [Sem.run_bind, run_szOf hok w, Result.andThen, if_neg hz, Sem.run_pure, addr_add]
  | _ => simp [hd] at hf

theorem field_sound {t : TypeId} {f : Nat} {fd : Field} (hf : fieldOf P t f = some fd) {v : V} {cs : List V} {x : Value} {I : Imm} {A : At} (hx : vr I A (.agg cs) x) (h : loadV P fd.type (cs.drop fd.offset) = some v) (w : World) :
    ∃ y, (Instr.field t x f).run P w = .ok y w ∧ vr I A v y := by
  simp only [vr] at hx
  obtain ⟨ys, rfl, hl⟩ := hx
  obtain ⟨y, hy, hv⟩ := run_part hl h w
  refine ⟨y, ?_, hv⟩
  unfold fieldOf at hf
  cases hd : und P t with
  | struct fs =>
    simp only [hd] at hf
    have hf' : fs[f]? = some fd := by simpa using hf
    unfold Instr.field
    rw [Sem.run_bind, run_und hd (by simp) w]
    simp only [Result.andThen, hf', asAgg, Sem.run_bind, Sem.run_pure, hy]
  | _ => simp [hd] at hf

end
end Go.Ae

/- The abstract evaluator: comparing and reckoning. -/
namespace Go.Ae
variable {P : Program}

theorem bytes_list (a : ByteArray) : a.toList = a.data.toList := ByteArray.toList_eq ..

set_option maxHeartbeats 1000000 in
theorem eqV_sound {I : Imm} {A : At} : ∀ (d : Nat) {t : TypeId} {x y : V} {x' y' : Value} {b : Bool}, vr I A x x' → vr I A y y' → eqV P d t x y = some b → ∀ D, d ≤ D → ∀ w, (Op.equalIn D t x' y').run P w = .ok b w
  | 0, t, x, y, x', y', b, _, _, h, _, _, _ => by cases h
  | d + 1, t, x, y, x', y', b, hx, hy, h, 0, hD, w => by omega
  | d + 1, t, x, y, x', y', b, hx, hy, h, D + 1, hD, w => by
    have ih := @eqV_sound I A d
    unfold eqV at h
    split at h
    · rename_i a a' hd
      simp only [vr] at hx hy; subst hx hy; obtain rfl := Option.some.inj h
      (simp only [Op.equalIn, Sem.run_bind, run_und hd (by simp), Result.andThen, Sem.run_pure]; try rfl)
    · rename_i hd
      simp only [vr] at hx hy; subst hx hy
      split at h
      · rename_i hk; subst hk
        obtain rfl := Option.some.inj h
        (simp only [Op.equalIn, Sem.run_bind, run_und hd (by simp), Result.andThen, Sem.run_pure]; try rfl)
      · cases h
    · rename_i hd
      simp only [vr] at hx hy; subst hx hy; obtain rfl := Option.some.inj h
      simp only [Op.equalIn, Sem.run_bind, run_und hd (by simp), Result.andThen, Sem.run_pure]
      rw [beq_toListBytes, bytes_list, bytes_list]
    · rename_i hd
      simp only [vr] at hx hy; subst hx hy; obtain rfl := Option.some.inj h
      (simp only [Op.equalIn, Sem.run_bind, run_und hd (by simp), Result.andThen, Sem.run_pure]; try rfl)
    · rename_i hd
      simp only [vr] at hx hy; obtain ⟨a, rfl, _⟩ := hy; subst hx; obtain rfl := Option.some.inj h
      (simp only [Op.equalIn, Sem.run_bind, run_und hd (by simp), Result.andThen, Sem.run_pure]; try rfl)
    · rename_i hd
      simp only [vr] at hx hy; obtain ⟨a, rfl, _⟩ := hx; subst hy; obtain rfl := Option.some.inj h
      (simp only [Op.equalIn, Sem.run_bind, run_und hd (by simp), Result.andThen, Sem.run_pure]; try rfl)
    · rename_i hd
      simp only [vr] at hx hy; obtain ⟨b', o', rfl, _⟩ := hy; subst hx; obtain rfl := Option.some.inj h
      (simp only [Op.equalIn, Sem.run_bind, run_und hd (by simp), Result.andThen, Sem.run_pure]; try rfl)
    · rename_i hd
      simp only [vr] at hx hy; obtain ⟨b', o', rfl, _⟩ := hx; subst hy; obtain rfl := Option.some.inj h
      (simp only [Op.equalIn, Sem.run_bind, run_und hd (by simp), Result.andThen, Sem.run_pure]; try rfl)
    · rename_i hd
      simp only [vr] at hx hy; subst hx hy; obtain rfl := Option.some.inj h
      (simp only [Op.equalIn, Sem.run_bind, run_und hd (by simp), Result.andThen, Sem.run_pure]; try rfl)
    · rename_i hd
      simp only [vr] at hx hy; obtain ⟨z, rfl, _⟩ := hy; subst hx; obtain rfl := Option.some.inj h
      (simp only [Op.equalIn, Sem.run_bind, run_und hd (by simp), Result.andThen, Sem.run_pure]; try rfl)
    · rename_i hd
      simp only [vr] at hx hy; obtain ⟨z, rfl, _⟩ := hx; subst hy; obtain rfl := Option.some.inj h
      (simp only [Op.equalIn, Sem.run_bind, run_und hd (by simp), Result.andThen, Sem.run_pure]; try rfl)
    · rename_i fs xs ys hd
      split at h
      · cases h
      · rename_i hst
        simp only [vr] at hx hy
        obtain ⟨xa, rfl, hxl⟩ := hx
        obtain ⟨ya, rfl, hyl⟩ := hy
        have hfo : P.fieldsOf t = fs := by simp [Program.fieldsOf, und_some hd]
        rw [run_equalIn_struct w D t xa ya (by rw [hfo]; exact und_some hd (by simp)) (by simpa using hst), hfo]
        clear hd hfo hst
        generalize fs.toList = l at h
        induction l generalizing b w with
        | nil => obtain rfl := Option.some.inj h; simp [Op.eqFields]
        | cons f l ihl =>
          simp only [List.foldr_cons] at h
          unfold Op.eqFields
          by_cases hn : f.name ≠ "_"
          · rw [if_pos hn] at h ⊢
            cases h1 : loadV P f.type (xs.drop f.offset) with
            | none => simp [h1] at h
            | some a =>
              cases h2 : loadV P f.type (ys.drop f.offset) with
              | none => simp [h1, h2] at h
              | some c =>
                simp only [h1, h2] at h
                obtain ⟨ax, ha, hav⟩ := run_part (P := P) hxl h1 w
                obtain ⟨cx, hc, hcv⟩ := run_part (P := P) hyl h2 w
                cases h3 : eqV P d f.type a c with
                | none => simp [h3] at h
                | some r =>
                  have hr := ih hav hcv h3 D (by omega) w
                  simp only [Sem.run_bind, ha, hc, hr, Result.andThen]
                  cases r with
                  | true => simp only [h3] at h; simpa using ihl _ w h
                  | false => simp only [h3] at h; obtain rfl := Option.some.inj h; simp
          · rw [if_neg hn] at h ⊢
            exact ihl _ w h
    · rename_i hd
      simp only [vr] at hx hy; subst hx hy; obtain rfl := Option.some.inj h
      (simp only [Op.equalIn, Sem.run_bind, run_und hd (by simp), Result.andThen, Sem.run_pure]; try rfl)
    · rename_i hd
      simp only [vr] at hx hy; obtain ⟨b', o', cap, rfl, _⟩ := hy; subst hx; obtain rfl := Option.some.inj h
      (simp only [Op.equalIn, Sem.run_bind, run_und hd (by simp), Result.andThen, Sem.run_pure]; try rfl)
    · rename_i hd
      simp only [vr] at hx hy; obtain ⟨a, c, rfl, _⟩ := hy; subst hx; obtain rfl := Option.some.inj h
      (simp only [Op.equalIn, Sem.run_bind, run_und hd (by simp), Result.andThen, Sem.run_pure]; try rfl)
    · rename_i hd
      simp only [vr] at hx hy; obtain ⟨b', o', cap, rfl, _⟩ := hx; subst hy; obtain rfl := Option.some.inj h
      (simp only [Op.equalIn, Sem.run_bind, run_und hd (by simp), Result.andThen, Sem.run_pure]; try rfl)
    · rename_i hd
      simp only [vr] at hx hy; obtain ⟨a, c, rfl, _⟩ := hx; subst hy; obtain rfl := Option.some.inj h
      (simp only [Op.equalIn, Sem.run_bind, run_und hd (by simp), Result.andThen, Sem.run_pure]; try rfl)
    · rename_i hd
      simp only [vr] at hx hy; subst hx hy; obtain rfl := Option.some.inj h
      (simp only [Op.equalIn, Sem.run_bind, run_und hd (by simp), Result.andThen, Sem.run_pure]; try rfl)
    · rename_i hd
      simp only [vr] at hx hy; obtain ⟨a, rfl, _⟩ := hy; subst hx; obtain rfl := Option.some.inj h
      (simp only [Op.equalIn, Sem.run_bind, run_und hd (by simp), Result.andThen, Sem.run_pure]; try rfl)
    · rename_i hd
      simp only [vr] at hx hy; obtain ⟨a, rfl, _⟩ := hx; subst hy; obtain rfl := Option.some.inj h
      (simp only [Op.equalIn, Sem.run_bind, run_und hd (by simp), Result.andThen, Sem.run_pure]; try rfl)
    · rename_i hd
      simp only [vr] at hx hy; subst hx hy; obtain rfl := Option.some.inj h
      (simp only [Op.equalIn, Sem.run_bind, run_und hd (by simp), Result.andThen, Sem.run_pure]; try rfl)
    · rename_i hd
      simp only [vr] at hx hy; obtain ⟨f', a', c', rfl, _⟩ := hy; subst hx; obtain rfl := Option.some.inj h
      (simp only [Op.equalIn, Sem.run_bind, run_und hd (by simp), Result.andThen, Sem.run_pure]; try rfl)
    · rename_i hd
      simp only [vr] at hx hy; obtain ⟨f', a', c', rfl, _⟩ := hx; subst hy; obtain rfl := Option.some.inj h
      (simp only [Op.equalIn, Sem.run_bind, run_und hd (by simp), Result.andThen, Sem.run_pure]; try rfl)
    · cases h

theorem intOp_sound {op : BinOp} {k k' : IntKind} {a b : Int} {v : V} (h : intOp op k a k' b = some v) (I : Imm) (A : At) (t : TypeId) (w : World) : ∃ y, (binOp op t (.int k a) (.int k' b)).run P w = .ok y w ∧ vr I A v y := by
  unfold intOp at h
  cases op <;> simp only at h <;> (try (cases h; done)) <;> (split at h) <;> (try (cases h; done)) <;> rename_i hc <;> obtain rfl := Option.some.inj h <;> refine ⟨_, ?_, by simp only [vr]; rfl⟩
  case add => subst hc; simp [binOp, Op.intArith]
  case sub => subst hc; simp [binOp, Op.intArith]
  case mul => subst hc; simp [binOp, Op.intArith]
  case quo => obtain ⟨rfl, hb⟩ := hc; simp [binOp, Op.intDiv, hb]
  case rem => obtain ⟨rfl, hb⟩ := hc; simp [binOp, Op.intDiv, hb]
  case shl => simp [binOp, Op.shift, hc]
  case shr => simp [binOp, Op.shift, hc]
  case eql => subst hc; simp [binOp, Op.intCmp]
  case neq => subst hc; simp [binOp, Op.intCmp]
  case lss => subst hc; simp [binOp, Op.intCmp]
  case leq => subst hc; simp [binOp, Op.intCmp]
  case gtr => subst hc; simp [binOp, Op.intCmp]
  case geq => subst hc; simp [binOp, Op.intCmp]

theorem strOp_sound {op : BinOp} {a b : ByteArray} {v : V} (h : strOp op a b = some v) (I : Imm) (A : At) (t : TypeId) (w : World) : ∃ y, (binOp op t (.string a) (.string b)).run P w = .ok y w ∧ vr I A v y := by
  unfold strOp at h
  cases op <;> simp only at h <;> (try (cases h; done))
  case add =>
    split at h
    · cases h
    · rename_i hc
      obtain rfl := Option.some.inj h
      exact ⟨.string (a ++ b), by simp only [binOp, Op.stringOp]; rw [if_neg hc]; rfl, by simp [vr]⟩
  all_goals
    obtain rfl := Option.some.inj h
    refine ⟨_, ?_, by simp only [vr]; rfl⟩
    simp [binOp, Op.stringOp, bytes_list]

end Go.Ae

/- The abstract evaluator: operations that touch no block, one by one. -/
namespace Go.Ae
variable {P : Program}

theorem vr_nilIface {I : Imm} {A : At} {v : V} (h : vr I A v .nilIface) : v = .nilif := by
  cases v <;> simp [vr] at h ⊢
theorem vr_agg {I : Imm} {A : At} {v : V} {xs : Array Value} (h : vr I A v (.agg xs)) : ∃ cs, v = .agg cs := by
  cases v <;> simp [vr] at h ⊢

theorem ite_run {α : Type} {c : Prop} [Decidable c] {x y : Sem α} {w : World} {r : Result α} (hx : x.run P w = r) (hy : y.run P w = r) : (if c then x else y).run P w = r := by
  split
  · exact hx
  · exact hy

theorem eqGuard_sound {I : Imm} {A : At} {op : BinOp} {t : TypeId} {x y : Operand} {a b : V} {a' b' : Value} (ha : vr I A a a') (hb : vr I A b b') {cx cy : Bool} (hcx : cx = true → ∃ v, x = .const v) (hcy : cy = true → ∃ v, y = .const v) (hg : guardOk P t cx cy a b = true) (w : World) :
    (eqGuard op t x y a' b').run P w = .ok () w := by
  unfold eqGuard
  refine ite_run rfl ?_
  · unfold guardOk at hg
    split at hg
    · simp only [vr] at ha hb; subst ha hb
      rw [Bool.or_eq_true] at hg
      rcases hg with hg | hg
      · obtain ⟨v, rfl⟩ := hcx hg; simp
      · obtain ⟨v, rfl⟩ := hcy hg; simp
    · simp only [vr] at ha hb
      obtain ⟨xa, rfl, _⟩ := ha
      obtain ⟨ya, rfl, _⟩ := hb
      simp only [Sem.run_bind, run_program, Result.andThen, hg, if_true, Sem.run_pure]
    · rename_i h1 h2
      split
      · exact (h1 (vr_nilIface ha) (vr_nilIface hb)).elim
      · obtain ⟨cs, e1⟩ := vr_agg ha
        obtain ⟨ds, e2⟩ := vr_agg hb
        exact (h2 cs ds e1 e2).elim
      · rfl

theorem vr_float {I : Imm} {A : At} {v : V} {k : FloatKind} {b : Nat} (h : vr I A v (.float k b)) : False := by
  cases v <;> simp [vr] at h
theorem vr_complex {I : Imm} {A : At} {v : V} {k : FloatKind} {b c : Nat} (h : vr I A v (.complex k b c)) : False := by
  cases v <;> simp [vr] at h
theorem vr_int {I : Imm} {A : At} {v : V} {k : IntKind} {n : Int} (h : vr I A v (.int k n)) : v = .int k n := by
  cases v <;> simp [vr] at h ⊢
  exact ⟨h.1.symm, h.2.symm⟩
theorem vr_string {I : Imm} {A : At} {v : V} {s : ByteArray} (h : vr I A v (.string s)) : v = .str s := by
  cases v <;> simp [vr] at h ⊢
  exact h.symm

theorem binOp_eql {I : Imm} {A : At} {t : TypeId} {a b : V} {a' b' : Value} (ha : vr I A a a') (hb : vr I A b b') (h1 : ∀ k x k' y, a = .int k x → b = .int k' y → False) (h2 : ∀ x y, a = .str x → b = .str y → False) :
    binOp .eql t a' b' = (do pure (.bool (← Op.equal t a' b'))) := by
  unfold binOp
  split <;> first | rfl | (rename_i h; cases h; done) | skip
  all_goals first
    | exact (h1 _ _ _ _ (vr_int ha) (vr_int hb)).elim
    | exact (vr_float ha).elim
    | exact (vr_complex ha).elim
    | exact (h2 _ _ (vr_string ha) (vr_string hb)).elim
    | (simp_all; done)
theorem binOp_neq {I : Imm} {A : At} {t : TypeId} {a b : V} {a' b' : Value} (ha : vr I A a a') (hb : vr I A b b') (h1 : ∀ k x k' y, a = .int k x → b = .int k' y → False) (h2 : ∀ x y, a = .str x → b = .str y → False) :
    binOp .neq t a' b' = (do pure (.bool (!(← Op.equal t a' b')))) := by
  unfold binOp
  split <;> first | rfl | (rename_i h; cases h; done) | skip
  all_goals first
    | exact (h1 _ _ _ _ (vr_int ha) (vr_int hb)).elim
    | exact (vr_float ha).elim
    | exact (vr_complex ha).elim
    | exact (h2 _ _ (vr_string ha) (vr_string hb)).elim
    | (simp_all; done)

theorem binV_sound {I : Imm} {A : At} {op : BinOp} {t : TypeId} {x y : Operand} {a b : V} {a' b' : Value} (ha : vr I A a a') (hb : vr I A b b') {cx cy : Bool} (hcx : cx = true → ∃ v, x = .const v) (hcy : cy = true → ∃ v, y = .const v)
    {v : V} (h : binV P op t cx cy a b = some v) (w : World) : ∃ z, (do eqGuard op t x y a' b'; binOp op t a' b' : Sem Value).run P w = .ok z w ∧ vr I A v z := by
  unfold binV at h
  split at h
  · have ha' := ha
    have hb' := hb
    simp only [vr] at ha' hb'; subst ha' hb'
    obtain ⟨z, hz, hv⟩ := intOp_sound (P := P) h I A t w
    refine ⟨z, ?_, hv⟩
    rw [Sem.run_bind, eqGuard_sound (P := P) ha hb hcx hcy rfl w]
    exact hz
  · have ha' := ha
    have hb' := hb
    simp only [vr] at ha' hb'; subst ha' hb'
    obtain ⟨z, hz, hv⟩ := strOp_sound (P := P) h I A t w
    refine ⟨z, ?_, hv⟩
    rw [Sem.run_bind, eqGuard_sound (P := P) ha hb hcx hcy rfl w]
    exact hz
  · rename_i h1 h2
    split at h
    · rename_i hg
      rw [Sem.run_bind, eqGuard_sound (P := P) ha hb hcx hcy hg w]
      simp only [Result.andThen]
      cases op <;> simp only at h <;> (try (cases h; done))
      case eql =>
        cases he : eqV P 100 t a b with
        | none => rw [he] at h; cases h
        | some r =>
          rw [he] at h; obtain rfl := Option.some.inj h
          have := eqV_sound (P := P) 100 ha hb he Op.maxDepth (by decide) w
          refine ⟨.bool r, ?_, by simp [vr]⟩
          rw [binOp_eql ha hb h1 h2, Sem.run_bind]
          unfold Op.equal
          rw [this]; rfl
      case neq =>
        cases he : eqV P 100 t a b with
        | none => rw [he] at h; cases h
        | some r =>
          rw [he] at h; obtain rfl := Option.some.inj h
          have := eqV_sound (P := P) 100 ha hb he Op.maxDepth (by decide) w
          refine ⟨.bool !r, ?_, by simp [vr]⟩
          rw [binOp_neq ha hb h1 h2, Sem.run_bind]
          unfold Op.equal
          rw [this]; rfl
    · cases h

end Go.Ae

/- The abstract evaluator: memory, operation by operation. -/
namespace Go.Ae
variable {P : Program}
section
variable {g : G} {get : Nat → Blk} {n : Nat} {w : World}

theorem no_imm_new (h : WR g get n w) {b : Nat} (hb : w.heap.size ≤ b) (o : Nat) : g.I b o = none := by
  cases hx : g.I b o with
  | none => rfl
  | some x =>
    have := h.imm b o x hx
    unfold World.cell? at this
    rw [Array.getElem?_eq_none hb] at this
    cases this

/-- A new row. -/
theorem new_row (h : WR g get n w) {nid : Nat} (hf : Fresh get n nid) {cs : List V} {c : Array Value} (hc : vrl g.I (g.at get n) cs c.toList) (el : TypeId) :
    WR (g.put nid w.heap.size 0 c.size) (upd get nid (.row 0 cs)) (max n (nid + 1)) (w.alloc (.cells c el)) ∧ Ext g get n w (g.put nid w.heap.size 0 c.size) (upd get nid (.row 0 cs)) (max n (nid + 1)) (w.alloc (.cells c el)) := by
  refine h.new hf _ _ _ _ fun e => ?_
  have h1 : (g.put nid w.heap.size 0 c.size).mu nid = w.heap.size := if_pos rfl
  have h2 : (g.put nid w.heap.size 0 c.size).base nid = 0 := if_pos rfl
  have h3 : (g.put nid w.heap.size 0 c.size).ts nid = c.size := if_pos rfl
  have hl : c.size = cs.length := by rw [← Array.length_toList]; exact vrl_len hc
  refine ⟨c, el, by rw [h1]; exact alloc_new _ _, h3.symm, by rw [h2]; omega, fun i v hv => ?_, fun o _ => by rw [h1]; exact no_imm_new h (Nat.le_refl _) o⟩
  obtain ⟨x, hx, hvr⟩ := vrl_get hc hv
  exact ⟨x, by rw [h2, Nat.zero_add]; simpa using hx, e.vr hvr⟩

theorem at_new_ptr {nid : Nat} (m t : Nat) (b : Blk) (hb : b.firm = true) : ((g.put nid m 0 t).at (upd get nid b) (max n (nid + 1))).ptr nid 0 ⟨m, 0, none⟩ :=
  ⟨by omega, by rw [upd_same]; exact hb, by simp [G.put]⟩

theorem newRow_run (el : TypeId) (c : Array Value) (w : World) : (newRow el c).run P w = .ok ⟨w.heap.size, 0, none⟩ (w.alloc (.cells c el)) := by
  unfold newRow newObj
  rw [Sem.run_bind]
  rfl

theorem alloc_sound (h : WR g get n w) {nid : Nat} (hf : Fresh get n nid) {o : Oper} {a : Act} {t : TypeId} (ho : o.op = .alloc t) {z : V} (hz : zeroOf P t = some z) :
    Comes1 P o a g get n w nid { v := .ptr nid 0, nw := [.row 0 z.cells] } := by
  obtain ⟨x, hx, hv⟩ := run_zero hz w
  obtain ⟨h1, h2⟩ := new_row h hf (vr_cells (hv g.I (g.at get n))) t
  refine ⟨.pointer (some ⟨w.heap.size, 0, none⟩), w.alloc (.cells x.cells t), _, .inl (run_v (s := Instr.alloc t true (.tuple #[])) (by simp only [execOp, ho]) ?_), h1, h2, ?_⟩
  · unfold Instr.alloc
    rw [Sem.run_bind, hx]
    simp only [Result.andThen, Sem.run_bind, newVar, newRow_run, Sem.run_pure]
  · simp only [vr]; exact ⟨_, rfl, at_new_ptr _ _ _ rfl⟩

theorem box_sound (h : WR g get n w) {nid : Nat} (hf : Fresh get n nid) {o : Oper} {a : Act} {t : TypeId} {x : Operand} (ho : o.op = .box t x) {v : V} (hv : vr g.I (g.at get n) v (a.eval x)) :
    Comes1 P o a g get n w nid { v := .ptr nid 0, nw := [.row 0 v.cells] } := by
  obtain ⟨h1, h2⟩ := new_row h hf (vr_cells hv) t
  refine ⟨.pointer (some ⟨w.heap.size, 0, none⟩), w.alloc (.cells (a.eval x).cells t), _, .inl (run_v (s := Instr.box t (a.eval x)) (by simp only [execOp, ho]) ?_), h1, h2, ?_⟩
  · unfold Instr.box
    simp only [Sem.run_bind, newVar, newRow_run, Result.andThen, Sem.run_pure]
  · simp only [vr]; exact ⟨_, rfl, at_new_ptr _ _ _ rfl⟩

theorem load_sound (h : WR g get n w) {nid : Nat} {o : Oper} {a : Act} {t : TypeId} {x : Operand} (ho : o.op = .load t x) {p : V} (hp : vr g.I (g.at get n) p (a.eval x)) {e : Eff} (he : xLoad P t get p = some e) :
    Comes1 P o a g get n w nid e := by
  unfold xLoad at he
  have key : ∀ {b off : Nat} {A : At} {cs : List V} {xs : List Value} {v : V} {rs : List Nat}, a.eval x = .pointer (some ⟨b, off, none⟩) → vrl g.I A cs xs → Holds w b off xs → loadV P t cs = some v → A.le (g.at get n) → Comes1 P o a g get n w nid { v, rd := rs } := by
    intro b off A cs xs v rs hx hc hh hl hA
    obtain ⟨y, hy, hv⟩ := run_loadVar (P := P) hc hh hl
    refine comes_same h (run_v (s := Instr.loadAt t (a.eval x)) (by simp only [execOp, ho]) ?_) (vr_mono (Imm.le_refl _) hA hv)
    unfold Instr.loadAt
    simp only [hx, Instr.sureAddr, Sem.run_bind, Sem.run_pure, Result.andThen, hy]
  cases p with
  | iptr cs =>
    simp only [vr] at hp
    obtain ⟨b, off, hx, hra⟩ := hp
    obtain ⟨v, hl, rfl⟩ := val_some he
    obtain ⟨xs, h1, h2⟩ := holds_imm h.imm hra
    exact key hx h1 h2 hl (At.bot_le _)
  | ptr r off =>
    simp only [vr] at hp
    obtain ⟨ad, hx, hr, hfm, rfl⟩ := hp
    simp only at he
    cases hg : get r with
    | row k cs =>
      simp only [hg] at he
      split at he
      · cases hl : loadV P t (cs.drop off) with
        | none => simp [hl] at he
        | some v =>
          simp only [hl] at he
          obtain rfl := Option.some.inj he
          obtain ⟨c, el, xs, h1, h2, h3, h4, h5, h6, h7⟩ := row_vals h hr hg
          exact key hx (vrl_drop h4 off) (h6.drop off) hl (At.le_refl _)
      · cases he
    | _ => simp [hg] at he
  | _ => cases he

theorem ones_one {I : Imm} {A : At} : ∀ {vs : List V} {xs : List Value}, V.ones vs = true → vrl I A vs xs → ∀ x ∈ xs, x.oneCell' = true
  | [], xs, _, h, x, hx => by simp [vrl] at h; subst h; cases hx
  | v :: vs, xs, h1, h, x, hx => by
    simp only [V.ones, Bool.and_eq_true] at h1
    simp only [vrl] at h
    obtain ⟨y, ys, rfl, hv, hl⟩ := h
    rcases List.mem_cons.1 hx with rfl | hx
    · cases x with
      | agg cs => obtain ⟨cs', rfl⟩ := vr_agg hv; simp [V.one] at h1
      | tuple cs => cases v <;> simp [vr] at hv; simp [V.one] at h1
      | _ => rfl
    · exact ones_one h1.2 hl x hx

theorem setRow_as (w : World) (b : Nat) {c : Array Value} {el : TypeId} (hc : w.heap[b]? = some (.cells c el (0, 0))) (c' : Array Value) : (w.setRow b c').heap = w.heap.setIfInBounds b (.cells c' el (0, 0)) := by
  apply Array.ext_getElem?
  intro j
  by_cases hj : j = b
  · subst hj
    rw [setRow_heap w j c c' el (0, 0) hc, Array.getElem?_setIfInBounds_self_of_lt (heap_lt hc)]
  · rw [Array.getElem?_setIfInBounds_ne (Ne.symm hj)]
    show (w.heap.modify b _)[j]? = _
    rw [Array.getElem?_modify, if_neg (Ne.symm hj)]

/-- A segment of a row is written. -/
theorem write_seg (h : WR g get n w) {r k : Nat} {cs new cs' : List V} {off : Nat} (hr : r < n) (hg : get r = .row k cs) (hk : k ≤ off) {ys : List Value} (hy : vrl g.I (g.at get n) new ys) (hone : V.ones new = true) (hs : splice cs new off = some cs') :
    ∃ w', (storeCells ⟨g.mu r, g.base r + off, none⟩ ys).run P w = .ok () w' ∧ WR g (upd get r (.row k cs')) n w' ∧ Ext g get n w g (upd get r (.row k cs')) n w' := by
  obtain ⟨c, el, xs, h1, h2, h3, h4, h5, h6, h7⟩ := row_vals h hr hg
  obtain ⟨hle, hsp⟩ := vrl_splice h4 hy hs
  have hyl : ys.length = new.length := vrl_len hy
  have hsl : cs'.length = cs.length := by
    unfold splice at hs
    rw [if_pos hle] at hs
    obtain rfl := Option.some.inj hs
    simp only [List.length_append, List.length_take, List.length_drop]
    omega
  have hcl : c.toList.length = c.size := Array.length_toList
  have hst := run_storeCells_at (P := P) (g.mu r) (g.base r + off) el ys 0 c w h1 (by rw [Nat.add_zero]; omega) (ones_one hone hy)
  simp only [Nat.add_zero] at hst
  refine ⟨_, hst, h.set_row hr hg h1 ?_ (setRow_as w _ h1 _) rfl rfl rfl ?_ ?_ ?_⟩
  · simp only [List.size_toArray, List.length_append, List.length_take, List.length_drop]; omega
  · intro o ho
    have : o < g.base r + off := by omega
    simp only [List.getElem?_toArray]
    rw [List.append_assoc, List.getElem?_append, if_pos (by simp only [List.length_take]; omega), List.getElem?_take, if_pos this]
    simp
  · omega
  · intro i v hv
    obtain ⟨x, hx, hvr⟩ := vrl_get hsp hv
    refine ⟨x, ?_, hvr⟩
    have hi : i < cs'.length := (List.getElem?_eq_some_iff.1 hv).1
    subst h5
    simp only [List.getElem?_toArray]
    have htl : ((c.toList.drop (g.base r)).take cs.length).length = cs.length := by simp only [List.length_take, List.length_drop]; omega
    rw [List.append_assoc, List.getElem?_append] at hx
    rw [List.append_assoc, List.getElem?_append]
    have e1 : ((c.toList.drop (g.base r)).take cs.length |>.take off).length = off := by simp only [List.length_take, List.length_drop]; omega
    have e2 : (c.toList.take (g.base r + off)).length = g.base r + off := by simp only [List.length_take]; omega
    rw [e1] at hx
    rw [e2]
    by_cases hio : i < off
    · rw [if_pos hio] at hx
      rw [if_pos (by omega), List.getElem?_take, if_pos (by omega)]
      rw [List.getElem?_take, if_pos hio, List.getElem?_take, if_pos (by omega), List.getElem?_drop] at hx
      exact hx
    · rw [if_neg hio] at hx
      rw [if_neg (by omega), show g.base r + i - (g.base r + off) = i - off by omega]
      rw [List.getElem?_append] at hx ⊢
      by_cases hin : i - off < ys.length
      · rw [if_pos hin] at hx ⊢; exact hx
      · rw [if_neg hin] at hx ⊢
        rw [List.getElem?_drop, List.getElem?_take, if_pos (by omega), List.getElem?_drop] at hx
        rw [List.getElem?_drop]
        rw [show g.base r + off + ys.length + (i - off - ys.length) = g.base r + (off + ys.length + (i - off - ys.length)) by omega]
        exact hx

theorem store_sound (h : WR g get n w) {nid : Nat} {o : Oper} {a : Act} {t : TypeId} {x y : Operand} (ho : o.op = .store t x y) {p u : V} (hp : vr g.I (g.at get n) p (a.eval x)) (hu : vr g.I (g.at get n) u (a.eval y)) (hok : okT P t = true) {e : Eff} (he : xStore P t get p u = some e) :
    Comes1 P o a g get n w nid e := by
  unfold xStore at he
  cases p with
  | ptr r off =>
    simp only [vr] at hp
    obtain ⟨ad, hx, hr, hfm, rfl⟩ := hp
    simp only at he
    cases hg : get r with
    | row k cs =>
      simp only [hg] at he
      split at he
      · rename_i hc
        obtain ⟨hk, hsz, hone⟩ := hc
        cases hs : splice cs u.cells off with
        | none => simp [hs] at he
        | some cs' =>
          simp only [hs] at he
          obtain rfl := Option.some.inj he
          have hcell := vr_cells hu
          obtain ⟨w', hrun, hW, hE⟩ := write_seg (P := P) h hr hg hk hcell hone hs
          refine ⟨undef, w', g, .inr ⟨run_u (s := Instr.storeAt t (a.eval x) (a.eval y)) (by simp only [execOp, ho]) ?_, rfl⟩, hW, hE, vr_undef⟩
          unfold Instr.storeAt
          simp only [hx, Instr.sureAddr, Sem.run_bind, Sem.run_pure, Result.andThen]
          unfold storeVar
          have hl : (a.eval y).cells.size = szOf P t := by rw [← Array.length_toList, vrl_len hcell]; exact hsz
          simp only [Sem.run_bind, run_szOf hok w, Result.andThen, hl, ne_eq, not_true_eq_false, if_false]
          exact hrun
      · cases he
    | _ => simp [hg] at he
  | _ => cases he

end
end Go.Ae

/- The abstract evaluator: literals, make. -/
namespace Go.Ae
variable {P : Program}

theorem repl_len (z : List V) : ∀ n, (repl z n).length = n * z.length
  | 0 => by simp [repl]
  | n + 1 => by simp [repl, repl_len z n, Nat.succ_mul, Nat.add_comm]

theorem repl_get (z : List V) : ∀ (n i : Nat), i < n * z.length → (repl z n)[i]? = z[i % z.length]?
  | 0, i, h => by simp at h
  | n + 1, i, h => by
    simp only [repl, List.getElem?_append]
    by_cases hi : i < z.length
    · rw [if_pos hi, Nat.mod_eq_of_lt hi]
    · rw [if_neg hi, repl_get z n (i - z.length) (by rw [Nat.succ_mul] at h; omega), ← Nat.mod_eq_sub_mod (by omega)]

theorem repl_vrl {I : Imm} {A : At} {zs : List V} {zx : Array Value} (h : vrl I A zs zx.toList) (n : Nat) : vrl I A (repl zs n) ((Array.range (n * zs.length)).map (fun i => zx[i % zx.size]!)).toList := by
  have hl : zx.size = zs.length := by rw [← Array.length_toList]; exact vrl_len h
  refine vrl_of_get (by simp [repl_len]) fun i v hv => ?_
  have hi : i < n * zs.length := by rw [← repl_len]; exact (List.getElem?_eq_some_iff.1 hv).1
  rw [repl_get zs n i hi] at hv
  obtain ⟨x, hx, hvr⟩ := vrl_get h hv
  refine ⟨x, ?_, hvr⟩
  have hpos : 0 < zs.length := by
    rcases Nat.eq_zero_or_pos zs.length with h0 | h0
    · rw [h0] at hi; simp at hi
    · exact h0
  have hlt : i % zx.size < zx.size := by rw [hl]; exact Nat.mod_lt _ hpos
  have hx' : zx[i % zx.size]? = some x := by rw [hl]; simpa using hx
  have : zx[i % zx.size]! = x := by
    rw [getElem!_pos zx (i % zx.size) hlt]
    rw [Array.getElem?_eq_getElem hlt] at hx'
    exact Option.some.inj hx'
  simp [hi, this]

section
variable {g : G} {get : Nat → Blk} {n : Nat} {w : World}

/-- The cells of a slice that is made. -/
theorem zeros_sound {I : Imm} {A : At} {e : TypeId} {m : Nat} {zs : List V} (h : (if m * szOf P e = 0 then some [] else (zeroOf P e).bind fun z => if z.cells.length = szOf P e then some (repl z.cells m) else none) = some zs) (w : World) :
    ∃ zero : Array Value, ((m * szOf P e = 0 ∧ zero = #[]) ∨ (m * szOf P e ≠ 0 ∧ ∃ x, (zeroValue e).run P w = .ok x w ∧ zero = x.cells)) ∧ vrl I A zs ((Array.range (m * szOf P e)).map (fun i => zero[i % zero.size]!)).toList := by
  by_cases h0 : m * szOf P e = 0
  · rw [if_pos h0] at h
    obtain rfl := Option.some.inj h
    exact ⟨#[], .inl ⟨h0, rfl⟩, by rw [h0]; simp [vrl]⟩
  · rw [if_neg h0] at h
    cases hz : zeroOf P e with
    | none => rw [hz] at h; cases h
    | some z =>
      rw [hz] at h
      simp only [Option.bind_some] at h
      split at h
      · rename_i hl
        obtain rfl := Option.some.inj h
        obtain ⟨x, hx, hv⟩ := run_zero hz w
        refine ⟨x.cells, .inr ⟨h0, x, hx, rfl⟩, ?_⟩
        · have := repl_vrl (vr_cells (hv I A)) m
          rw [hl] at this
          exact this
      · cases h

theorem litCells_sound {I : Imm} {A : At} {t : TypeId} {len : Nat} {vs : List (Nat × V)} {xs : Array (Nat × Value)} (h1 : xs.toList.map (·.1) = vs.map (·.1)) (h2 : vrl I A (vs.map (·.2)) (xs.toList.map (·.2))) {cs : List V} {sz : Nat} (h : litCells P t len vs = some (cs, sz)) (w : World) :
    ∃ e c, und P t = .slice e ∧ sz = szOf P e ∧ vrl I A cs c.toList ∧ cs.length = len * sz ∧ (Instr.buildSlice t len xs).run P w = .ok (.slice (some ⟨w.heap.size, 0, none⟩) len len) (w.alloc (.cells c e)) := by
  unfold litCells at h
  cases hd : und P t with
  | slice e =>
    simp only [hd] at h
    split at h
    · rename_i hc
      obtain ⟨hle, hok⟩ := hc
      cases hzs : (if len * szOf P e = 0 then some [] else (zeroOf P e).bind fun z => if z.cells.length = szOf P e then some (repl z.cells len) else none) with
      | none => rw [hzs] at h; cases h
      | some zs =>
        rw [hzs] at h
        obtain ⟨zero, hz1, hz2⟩ := zeros_sound (I := I) (A := A) hzs w
        simp only at h
        cases hf : fillV (fun i => some (i * szOf P e, szOf P e)) zs vs with
        | none => rw [hf] at h; cases h
        | some cs' =>
          rw [hf] at h
          have h' : cs' = cs ∧ szOf P e = sz := by simpa using h
          obtain ⟨rfl, rfl⟩ := h'
          obtain ⟨out, e1, e2⟩ := fill_sound h1 h2 hz2 hf
          have hlen : cs'.length = len * szOf P e := by
            have := fillV_len hf
            rw [this, ← vrl_len hz2]; simp
          refine ⟨e, out, rfl, rfl, e2, hlen, ?_⟩
          unfold Instr.buildSlice
          rw [Sem.run_bind, run_und hd (by simp) w]
          simp only [Result.andThen, Sem.run_bind, run_szOf hok w]
          rw [if_neg (by omega)]
          rcases hz1 with ⟨h0, rfl⟩ | ⟨h0, x, hx, rfl⟩
          · rw [if_pos h0]
            simp only [Sem.run_bind, Sem.run_pure, Result.andThen, e1, newRow_run]
          · rw [if_neg h0]
            simp only [Sem.run_bind, hx, Sem.run_pure, Result.andThen, e1, newRow_run]
    · cases h
  | _ => simp [hd] at h

theorem exec_lit {o : Oper} {a : Act} {t : TypeId} {len : Nat} {ps : Array (Nat × Operand)} (ho : o.op = .buildSlice t len ps) :
    execOp a.eval o = (do pure (.value (← Instr.buildSlice t len (ps.map fun p => (p.1, a.eval p.2))))) := by
  unfold execOp
  rw [ho]
theorem exec_build {o : Oper} {a : Act} {t : TypeId} {ps : Array (Nat × Operand)} (ho : o.op = .build t ps) :
    execOp a.eval o = (do pure (.value (← Instr.build t (ps.map fun p => (p.1, a.eval p.2))))) := by
  unfold execOp
  rw [ho]

theorem lit_sound (h : WR g get n w) {nid : Nat} (hf : Fresh get n nid) {o : Oper} {a : Act} {t : TypeId} {len : Nat} {ps : Array (Nat × Operand)} (ho : o.op = .buildSlice t len ps) {vs : List (Nat × V)}
    (h1 : (ps.toList.map fun (p : Nat × Operand) => (p.1, a.eval p.2)).map (·.1) = vs.map (·.1)) (h2 : vrl g.I (g.at get n) (vs.map (·.2)) ((ps.toList.map fun (p : Nat × Operand) => (p.1, a.eval p.2)).map (·.2)))
    {cs : List V} {sz : Nat} (hl : litCells P t len vs = some (cs, sz)) {hm : Bool} {e : Eff} (he : xLit hm nid len cs sz = some e) : Comes1 P o a g get n w nid e := by
  have hps : (ps.map fun p => (p.1, a.eval p.2)).toList = ps.toList.map fun (p : Nat × Operand) => (p.1, a.eval p.2) := by simp
  obtain ⟨el, c, hd, rfl, hc, hcl, hrun⟩ := litCells_sound (P := P) (xs := ps.map fun p => (p.1, a.eval p.2)) (by rw [hps]; exact h1) (by rw [hps]; exact h2) hl w
  have hex : (execOp a.eval o).run P w = .ok (.value (.slice (some ⟨w.heap.size, 0, none⟩) len len)) (w.alloc (.cells c el)) :=
    run_v (exec_lit ho) hrun
  unfold xLit at he
  split at he
  · rename_i hp
    rw [Bool.and_eq_true] at hp
    obtain rfl := Option.some.inj he
    obtain ⟨hW, hE⟩ := h.imm_alloc c el
    have hv := vrl_pure hp.1 (vrl_seals hc)
    refine ⟨.slice (some ⟨w.heap.size, 0, none⟩) len len, w.alloc (.cells c el), _, .inl hex, hW, hE, ?_⟩
    have hra : vra (immAt g.I w.heap.size 0 c.toList) w.heap.size 0 (V.seals cs) := vra_of_vals (vrl_mono hE.I_le (At.le_refl _) hv) fun i x hx => immAt_in hx
    have hl : (V.seals cs).length = len * szOf P el := by rw [← hcl, ← vrl_len hc, ← vrl_len hv]
    simp only [vr]
    exact ⟨w.heap.size, 0, len, rfl, Nat.le_refl _, hl, hra, rfl⟩
  · obtain rfl := Option.some.inj he
    obtain ⟨hW, hE⟩ := new_row h hf hc el
    refine ⟨.slice (some ⟨w.heap.size, 0, none⟩) len len, w.alloc (.cells c el), _, .inl hex, hW, hE, ?_⟩
    simp only [vr]
    refine ⟨⟨w.heap.size, 0, none⟩, len, rfl, by show nid < max n (nid + 1); omega, by show (upd get nid _ nid).firm = true; rw [upd_same]; rfl, ?_, Nat.le_refl _, Nat.le_refl _, fun _ => rfl, ?_⟩
    · simp [G.put]
    · simp only [G.put, if_pos rfl, Nat.zero_add]
      rw [← Array.length_toList, vrl_len hc, hcl]
      simp

end
end Go.Ae

/- The abstract evaluator: make, len, and the small ones. -/
namespace Go.Ae
variable {P : Program}

theorem wrap_small {i : Int} (h0 : 0 ≤ i) (h1 : i ≤ 2 ^ 24) : IntKind.i64.wrap i = i := by
  have : i ≤ 16777216 := h1
  exact IntWalk.i64_in _ (by omega)

section
variable {g : G} {get : Nat → Blk} {n : Nat} {w : World}

theorem make_sound (h : WR g get n w) {nid : Nat} (hf : Fresh get n nid) {o : Oper} {a : Act} {t : TypeId} {x y : Operand} (ho : o.op = .makeSlice t x y) {el : TypeId} (hd : und P t = .slice el) {k k' : IntKind} {l c : Int} (hl : a.eval x = .int k l) (hc : a.eval y = .int k' c)
    {e : Eff} (he : xMake P el nid l c = some e) : Comes1 P o a g get n w nid e := by
  unfold xMake at he
  split at he
  · rename_i hb
    obtain ⟨b1, b2, b3, b4, hok⟩ := hb
    cases hzs : (if c.toNat * szOf P el = 0 then some [] else (zeroOf P el).bind fun z => if z.cells.length = szOf P el then some (repl z.cells c.toNat) else none) with
    | none => rw [hzs] at he; cases he
    | some zs =>
      rw [hzs] at he
      obtain rfl := Option.some.inj he
      obtain ⟨zero, hz1, hz2⟩ := zeros_sound (P := P) (I := g.I) (A := g.at get n) hzs w
      obtain ⟨i, hi1, hi2, hi3⟩ := run_info hok w
      obtain ⟨hW, hE⟩ := new_row h hf hz2 el
      have b3' : c ≤ 16777216 := b3
      have b4' : c * (bytesOf P el : Int) ≤ 1099511627776 := b4
      have hwl : IntKind.i64.wrap l = l := wrap_small b1 (by omega)
      have hwc : IntKind.i64.wrap c = c := wrap_small (by omega) b3
      have hby : (i.bytes : Int) * c ≤ 1099511627776 := by rw [hi3, Int.mul_comm]; exact b4'
      have hby2 : (i.bytes : Int) * l ≤ 1099511627776 := Int.le_trans (Int.mul_le_mul_of_nonneg_left b2 (Int.natCast_nonneg _)) hby
      have hroom : ¬ (c.toNat * i.bytes > roomBytes) := by
        have e1 : ((c.toNat * i.bytes : Nat) : Int) = (i.bytes : Int) * c := by
          rw [Int.natCast_mul, Int.toNat_of_nonneg (by omega), Int.mul_comm]
        have e2 : (roomBytes : Int) = 140737488355328 := by decide
        intro hgt
        have : (roomBytes : Int) < ((c.toNat * i.bytes : Nat) : Int) := by exact_mod_cast hgt
        omega
      refine ⟨.slice (some ⟨w.heap.size, 0, none⟩) l.toNat c.toNat, _, _, .inl (run_v (s := Instr.makeSlice t (a.eval x) (a.eval y)) (by unfold execOp; rw [ho]) ?_), hW, hE, ?_⟩
      · unfold Instr.makeSlice
        rw [Sem.run_bind, run_und hd (by simp) w, hl, hc]
        simp only [Result.andThen, asInt, asIntOf, Sem.run_bind, Sem.run_pure, hi1, hwl, hwc]
        have hlarge : ¬ ((decide (c < 0) || decide ((i.bytes : Int) * c > 2 ^ 48)) || decide (l < 0) || decide (l > c)) = true := by
          simp only [Bool.or_eq_true, decide_eq_true_eq]
          have : (2 : Int) ^ 48 = 281474976710656 := by decide
          omega
        rw [if_neg hlarge]
        unfold askRoom
        rw [if_neg hroom]
        simp only [Sem.run_pure, Result.andThen, Sem.run_bind, run_szOf hok w]
        rcases hz1 with ⟨h0, rfl⟩ | ⟨h0, z, hz, rfl⟩
        · rw [if_pos h0]
          simp only [Sem.run_bind, Sem.run_pure, Result.andThen, newRow_run]
        · rw [if_neg h0]
          simp only [Sem.run_bind, hz, Sem.run_pure, Result.andThen, newRow_run]
      · simp only [vr]
        refine ⟨⟨w.heap.size, 0, none⟩, c.toNat, rfl, by show nid < max n (nid + 1); omega, by show (upd get nid _ nid).firm = true; rw [upd_same]; rfl, by simp [G.put], by omega, Nat.le_refl _, fun _ => rfl, ?_⟩
        simp [G.put]
  · cases he

theorem makeMap_sound (h : WR g get n w) {nid : Nat} (hf : Fresh get n nid) {o : Oper} {a : Act} {t : TypeId} (ho : o.op = .makeMap t none) : Comes1 P o a g get n w nid { v := .map nid, nw := [.map [] 0] } := by
  have hW := h.new hf (.map #[] 0) (.map [] 0) 0 0 fun e => ⟨#[], 0, by rw [show (g.put nid w.heap.size 0 0).mu nid = w.heap.size from if_pos rfl]; exact alloc_new _ _, rfl, by simp, by simp⟩
  refine ⟨.map (some w.heap.size), w.alloc (.map #[] 0), _, .inl (run_v (s := Instr.makeMap t none) (by unfold execOp; rw [ho]; rfl) ?_), hW.1, hW.2, ?_⟩
  · unfold Instr.makeMap newObj
    rw [Sem.run_bind]
    rfl
  · simp only [vr]
    exact ⟨w.heap.size, rfl, by show nid < max n (nid + 1); omega, by show (upd get nid _ nid).firm = true; rw [upd_same]; rfl, by simp [G.put]⟩

theorem entsR_len {I : Imm} {A : At} : ∀ {l : List (V × V)} {es : List MapEntry}, entsR I A l es → es.length = l.length
  | [], _, h => by simp [entsR] at h; simp [h]
  | (_, _) :: _, _, ⟨e, es', h, _, _, h3⟩ => by subst h; simp [entsR_len h3]

theorem len_sound (h : WR g get n w) {t : TypeId} {x : V} {x' : Value} (hx : vr g.I (g.at get n) x x') {e : Eff} (he : lenV P get t x = some e) : e.wr = [] ∧ e.nw = [] ∧ ∃ y, (∀ ty, (Builtin.len_ #[t] ty #[x']).run P w = .ok y w) ∧ vr g.I (g.at get n) e.v y := by
  unfold lenV at he
  have hl : ∀ ty, (Builtin.len_ #[t] ty #[x']).run P w = (Builtin.len_ #[t] 0 #[x']).run P w := fun _ => rfl
  suffices hh : e.wr = [] ∧ e.nw = [] ∧ ∃ y, (Builtin.len_ #[t] 0 #[x']).run P w = .ok y w ∧ vr g.I (g.at get n) e.v y by
    obtain ⟨a1, a2, y, a3, a4⟩ := hh
    exact ⟨a1, a2, y, fun ty => (hl ty).trans a3, a4⟩
  clear hl
  unfold Builtin.len_
  simp only [List.getElem?_toArray, List.getElem?_cons_zero, Sem.run_bind]
  split at he
  · rename_i hd
    obtain rfl := Option.some.inj he
    simp only [vr] at hx; subst hx
    exact ⟨rfl, rfl, goInt _, by rw [run_und hd (by simp) w]; rfl, by simp [vr, goInt]⟩
  · rename_i hd
    obtain rfl := Option.some.inj he
    exact ⟨rfl, rfl, goInt _, by rw [run_und hd (by simp) w]; rfl, by simp [vr, goInt]⟩
  · rename_i hd
    obtain rfl := Option.some.inj he
    simp only [vr] at hx; subst hx
    exact ⟨rfl, rfl, goInt _, by rw [run_und hd (by simp) w]; rfl, by simp [vr, goInt]⟩
  · rename_i hd
    obtain rfl := Option.some.inj he
    simp only [vr] at hx; obtain ⟨_, rfl⟩ := hx
    exact ⟨rfl, rfl, goInt _, by rw [run_und hd (by simp) w]; rfl, by simp [vr, goInt]⟩
  · rename_i hd
    obtain rfl := Option.some.inj he
    simp only [vr] at hx; obtain ⟨b, o, cap, rfl, _⟩ := hx
    exact ⟨rfl, rfl, goInt _, by rw [run_und hd (by simp) w]; rfl, by simp [vr, goInt]⟩
  · rename_i hd
    obtain rfl := Option.some.inj he
    simp only [vr] at hx; obtain ⟨b, c, rfl, _⟩ := hx
    exact ⟨rfl, rfl, goInt _, by rw [run_und hd (by simp) w]; rfl, by simp [vr, goInt]⟩
  · rename_i x dd xx kk ee hd
    cases hm : mapOf get x with
    | none => rw [hm] at he; cases he
    | some p =>
      obtain ⟨es, rs⟩ := p
      rw [hm] at he
      obtain rfl := Option.some.inj he
      unfold mapOf at hm
      cases x with
      | nilm =>
        simp only [vr] at hx; subst hx
        simp at hm; obtain ⟨rfl, _⟩ := hm
        exact ⟨rfl, rfl, goInt 0, by rw [run_und hd (by simp) w]; rfl, by simp [vr, goInt]⟩
      | map r =>
        simp only [vr] at hx
        obtain ⟨b, rfl, hr, hfm, rfl⟩ := hx
        simp only at hm
        cases hg : get r with
        | map es' ver =>
          simp [hg] at hm; obtain ⟨rfl, _⟩ := hm
          have hb := h.blk r hr
          rw [hg] at hb
          obtain ⟨ents, clock, h1, h2, h3⟩ := hb
          refine ⟨rfl, rfl, goInt ents.size, ?_, ?_⟩
          · rw [run_und hd (by simp) w]
            simp only [Result.andThen, getObj, Sem.run_bind, Sem.run, h1, Sem.run_pure]
          · have := entsR_len h2
            simp only [Array.length_toList] at this
            simp [vr, goInt, this]
        | _ => simp [hg] at hm
      | _ => cases hm
  · cases he

theorem max_sound {I : Imm} {A : At} : ∀ {vs : List V} {xs : List Value} {x v : V} {x' : Value}, vr I A x x' → vrl I A vs xs → minmax true x vs = some v → ∀ w, ∃ y, (xs.foldlM Builtin.max2 x' : Sem Value).run P w = .ok y w ∧ vr I A v y
  | [], xs, x, v, x', hx, hl, h, w => by
    simp [vrl] at hl; subst hl
    have : x = v := by cases x <;> simpa [minmax] using h
    subst this
    exact ⟨x', rfl, hx⟩
  | u :: us, xs, x, v, x', hx, hl, h, w => by
    simp only [vrl] at hl
    obtain ⟨y, ys, rfl, hy, hl⟩ := hl
    unfold minmax at h
    split at h
    · rename_i heq; cases heq
    · rename_i k a k' b rest heq
      obtain ⟨rfl, rfl⟩ := List.cons.inj heq
      simp only [vr] at hx hy; subst hx hy
      obtain ⟨z, hz, hv⟩ := max_sound (x := .int k (if a < b then b else a)) (x' := .int k (if b > a then b else a)) (by simp only [vr, gt_iff_lt]) hl (by simpa using h) w
      refine ⟨z, ?_, hv⟩
      rw [List.foldlM_cons, Sem.run_bind]
      simpa [Builtin.max2] using hz
    · cases h

theorem min_sound {I : Imm} {A : At} : ∀ {vs : List V} {xs : List Value} {x v : V} {x' : Value}, vr I A x x' → vrl I A vs xs → minmax false x vs = some v → ∀ w, ∃ y, (xs.foldlM Builtin.min2 x' : Sem Value).run P w = .ok y w ∧ vr I A v y
  | [], xs, x, v, x', hx, hl, h, w => by
    simp [vrl] at hl; subst hl
    have : x = v := by cases x <;> simpa [minmax] using h
    subst this
    exact ⟨x', rfl, hx⟩
  | u :: us, xs, x, v, x', hx, hl, h, w => by
    simp only [vrl] at hl
    obtain ⟨y, ys, rfl, hy, hl⟩ := hl
    unfold minmax at h
    split at h
    · rename_i heq; cases heq
    · rename_i k a k' b rest heq
      obtain ⟨rfl, rfl⟩ := List.cons.inj heq
      simp only [vr] at hx hy; subst hx hy
      obtain ⟨z, hz, hv⟩ := min_sound (x := .int k (if b < a then b else a)) (x' := .int k (if b < a then b else a)) (by simp only [vr]) hl (by simpa using h) w
      refine ⟨z, ?_, hv⟩
      rw [List.foldlM_cons, Sem.run_bind]
      simpa [Builtin.min2] using hz
    · cases h

end
end Go.Ae
