/- The abstract evaluator: append: what the model does. -/
import Derived.Test.YtelobjfgghlkfaaGreatA3
set_option linter.all false
noncomputable section
namespace Go.Ae
variable {P : Program}

theorem growBy_le (need : Nat) : ∀ (rounds c : Nat), c < need → Builtin.growBy need rounds c ≤ need + (need + 768) / 4
  | 0, c, h => by simp only [Builtin.growBy]; omega
  | k + 1, c, h => by
    simp only [Builtin.growBy]
    split
    · omega
    · by_cases h2 : c + (c + 768) / 4 < need
      · exact growBy_le need k _ h2
      · have : Builtin.growBy need k (c + (c + 768) / 4) = c + (c + 768) / 4 := by
          cases k with
          | zero => rfl
          | succ k => simp only [Builtin.growBy]; rw [if_pos (by omega)]
        rw [this]; omega

theorem nextcap_le {need cap : Nat} (h : cap < need) : Builtin.nextslicecap need cap ≤ 2 * need + 192 := by
  unfold Builtin.nextslicecap
  split
  · omega
  · split
    · omega
    · have := growBy_le need 4 cap h
      omega

theorem askRoom_run (k : Nat) (w : World) : (askRoom k).run P w = .ok () w := by
  unfold askRoom
  split <;> rfl

theorem choose_cap (need cap : Nat) (e : TypeId) (w : World) : ∃ m, need ≤ m ∧ (choose (.appendCap need cap e)).run P w = .ok m { w with drawn := w.drawn + 1 } := by
  refine ⟨(Question.appendCap need cap e).cut (w.tape w.drawn (.appendCap need cap e)), ?_, rfl⟩
  simp only [Question.cut]; omega

section
variable {t u e : TypeId} (ht : und P t = .slice e) (hu : okU P u = true) (hint : ∀ k, und P u ≠ .int k) (hz : okZ P e = true)
include ht hu hint hz

theorem append_in {base : Option Addr} {sLen sCap n : Nat} {x : Value} {ty : TypeId} {w w' : World} {ys : Array Value} (hlen : (Builtin.lenOf x).run P w = .ok n w) (hle : sLen + n ≤ sCap) (hnew : (Builtin.firstCells (szOf P e) n x).run P w = .ok ys w)
    (hst : (match base with | some a => storeCells (a.add (sLen * szOf P e)) ys.toList | none => pure () : Sem Unit).run P w = .ok () w') :
    (Builtin.append_ #[t, u] ty #[.slice base sLen sCap, x]).run P w = .ok (.slice base (sLen + n) sCap) w' := by
  unfold Builtin.append_
  have hzf : (match und P u with | .int _ => true | _ => false) = false := by
    cases hd : und P u <;> first | rfl | exact absurd hd (hint _)
  simp only [List.getElem?_toArray, List.getElem?_cons_zero, List.getElem?_cons_succ, Sem.run_bind, run_und ht (by simp) w, Result.andThen, run_szOf (okT_of_okZ hz) w, run_okU hu w, Sem.run_pure]
  cases hd : und P u with
  | int k => exact absurd hd (hint k)
  | _ =>
    simp only [Bool.false_eq_true, if_false, Sem.run_bind, hlen, Result.andThen, if_pos hle, Bool.not_false, if_true, hnew]
    cases base with
    | none =>
      simp only [Sem.run_pure] at hst ⊢
      injection hst with _ hst
      rw [hst]
    | some a =>
      simp only at hst ⊢
      rw [Sem.run_bind, hst]
      rfl

theorem append_grow {base : Option Addr} {sLen sCap n : Nat} {x : Value} {ty : TypeId} {w : World} {old ys : Array Value} (hpos : 0 < n) (hlen : (Builtin.lenOf x).run P w = .ok n w) (hlt : sCap < sLen + n) (hroom : roomOk P e (sLen + n))
    (hold : ∀ w1 : World, w1.heap = w.heap → (Builtin.firstCells (szOf P e) sLen (.slice base sLen sCap)).run P w1 = .ok old w1) (hnew : ∀ w1 : World, w1.heap = w.heap → (Builtin.firstCells (szOf P e) n x).run P w1 = .ok ys w1) :
    ∃ cap c, sLen + n ≤ cap ∧ (∃ rest : Array Value, c = old ++ ys ++ rest ∧ rest.size = (cap - (sLen + n)) * szOf P e) ∧
      (Builtin.append_ #[t, u] ty #[.slice base sLen sCap, x]).run P w = .ok (.slice (some ⟨w.heap.size, 0, none⟩) (sLen + n) cap) ({ w with drawn := w.drawn + 1 }.alloc (.cells c e)) := by
  obtain ⟨cap, hcap, hch⟩ := choose_cap (P := P) (sLen + n) sCap e w
  obtain ⟨z, hzr, hzs⟩ := run_okZ hz { w with drawn := w.drawn + 1 }
  obtain ⟨i, hi1, hi2, hi3⟩ := run_info (okT_of_okZ hz) w
  obtain ⟨j, hj1, hj2, hj3⟩ := run_info (okT_of_okZ hz) { w with drawn := w.drawn + 1 }
  obtain ⟨r1, r2⟩ := hroom
  have r1' : (sLen + n) * bytesOf P e ≤ 1099511627776 := r1
  have r2' : sLen + n ≤ 1099511627776 := r2
  have hn1 := nextcap_le hlt
  have hmax : ¬ (((sLen + n : Nat) : Int) > IntKind.i64.max ∧ (false = true ∨ i.bytes = 0)) := by
    have : IntKind.i64.max = 9223372036854775807 := by decide
    rintro ⟨h1, _⟩
    omega
  have hbig : ¬ Builtin.nextslicecap (sLen + n) sCap * i.bytes > 2 ^ 48 := by
    rw [hi3]
    have hb : bytesOf P e ≤ 1099511627776 := by
      have : 1 * bytesOf P e ≤ (sLen + n) * bytesOf P e := Nat.mul_le_mul_right _ (by omega)
      omega
    have h2 : Builtin.nextslicecap (sLen + n) sCap * bytesOf P e ≤ (2 * (sLen + n) + 192) * bytesOf P e := Nat.mul_le_mul_right _ hn1
    have h3 : (2 * (sLen + n) + 192) * bytesOf P e = 2 * ((sLen + n) * bytesOf P e) + 192 * bytesOf P e := by rw [Nat.add_mul, Nat.mul_assoc]
    have h4 : (2 : Nat) ^ 48 = 281474976710656 := by decide
    omega
  refine ⟨cap, old ++ ys ++ Builtin.zeroCells z.cells (cap - (sLen + n)), hcap, ⟨_, rfl, ?_⟩, ?_⟩
  · simp [Builtin.zeroCells, hzs]
  · unfold Builtin.append_
    simp only [List.getElem?_toArray, List.getElem?_cons_zero, List.getElem?_cons_succ, Sem.run_bind, run_und ht (by simp) w, Result.andThen, run_szOf (okT_of_okZ hz) w, run_okU hu w, Sem.run_pure]
    cases hd : und P u with
    | int k => exact absurd hd (hint k)
    | _ =>
      simp only [Bool.false_eq_true, if_false, Sem.run_bind, hlen, Result.andThen, if_neg (Nat.not_le.2 hlt), Bool.not_false, if_true]
      simp only [hi1, Sem.run_bind, Result.andThen]
      rw [if_neg (by simpa using hmax)]
      simp only [hi1, Sem.run_bind, Result.andThen]
      rw [if_neg hbig]
      simp only [Sem.run_bind, hch, Result.andThen, hj1, askRoom_run, hold { w with drawn := w.drawn + 1 } rfl, hnew { w with drawn := w.drawn + 1 } rfl, hzr, newRow_run, Sem.run_pure]

end
end Go.Ae

/- The abstract evaluator: append: how memory turns. -/
namespace Go.Ae
variable {P : Program}
section
variable {g : G} {get : Nat → Blk} {n : Nat} {w : World}

/-- G, with other cells that do not change. -/
def G.withI (g : G) (I : Imm) : G := { g with I := I }

/-- A new block, some of whose cells do not change from now on: the right to append to them goes to a number that is new. -/
theorem grow_val (h : WR g get n w) {nid : Nat} (hf : Fresh get n nid) (c : Array Value) (el : TypeId) (m hw : Nat) (hm : m ≤ c.size) :
    WR ((g.withI (immAt g.I w.heap.size 0 (c.toList.take m))).put nid w.heap.size m c.size) (upd get nid (.tok hw)) (max n (nid + 1)) (w.alloc (.cells c el)) ∧
    Ext g get n w ((g.withI (immAt g.I w.heap.size 0 (c.toList.take m))).put nid w.heap.size m c.size) (upd get nid (.tok hw)) (max n (nid + 1)) (w.alloc (.cells c el)) := by
  have hres : ∀ r, r < n → r = nid → get r = .resv := fun r hr e => by subst e; exact hf.2 hr
  refine WR.go (fun r => r = nid) (fun _ => False) h (Nat.le_max_left _ _) ?_ ?_ (alloc_size _ _) (fun b hb _ => alloc_old _ _ hb) (fun _ _ hd => hd.elim) ?_ ?_ ?_ ?_ ?_ ?_ ?_ ?_ ?_ rfl rfl rfl ?_ ?_
  · intro r _ hc; exact ⟨upd_ne _ _ hc, if_neg hc, if_neg hc, if_neg hc⟩
  · intro r h1 h2; have := hf.1; omega
  · exact immAt_le fun o x hx => by rw [no_imm_new h (Nat.le_refl _)] at hx; cases hx
  · intro b o x hx
    rcases immAt_cases hx with h1 | ⟨rfl, _⟩
    · exact .inl h1
    · exact .inr (.inl (Nat.le_refl _))
  · intro b o x hx hc
    rcases immAt_cases hx with h1 | ⟨rfl, i, rfl, hi⟩
    · rcases hc with hc | hc
      · rw [no_imm_new h hc] at h1; cases h1
      · exact hc.elim
    · rw [Nat.zero_add, cell_new]
      rw [List.getElem?_take] at hi
      split at hi
      · simpa using hi
      · cases hi
  · intro r hr hc hfm; rw [hres r hr hc] at hfm; cases hfm
  · intro r hr hc hk; exact absurd (hres r hr hc) hk
  · intro r hr hc hw hw' e; rw [hres r hr hc] at e; cases e
  · intro r _ hc _; subst hc; exact .inl (by simp [G.put])
  · intro r r' _ _ hc hc' _ _ _; rw [hc, hc']
  · intro r k ver left cur hr hc hg hcm es ver' he; subst hcm; rw [upd_same] at he; cases he
  · intro e r _ hc
    subst hc
    rw [upd_same]
    refine ⟨c, el, by rw [show ((g.withI (immAt g.I w.heap.size 0 (c.toList.take m))).put r w.heap.size m c.size).mu r = w.heap.size from if_pos rfl]; exact alloc_new _ _, by simp [G.put], by simpa [G.put] using hm, fun o ho => ?_⟩
    have ho' : m ≤ o := by simpa [G.put] using ho
    show immAt g.I w.heap.size 0 (c.toList.take m) _ o = none
    rw [show ((g.withI (immAt g.I w.heap.size 0 (c.toList.take m))).put r w.heap.size m c.size).mu r = w.heap.size from if_pos rfl]
    unfold immAt
    rw [if_neg (by simp only [List.length_take, Array.length_toList]; omega)]
    exact no_imm_new h (Nat.le_refl _) o
  · intro r hr hc es ver e; rw [hres r hr hc] at e; cases e

/-- The same: the right to append was another block's. -/
theorem grow_tok (h : WR g get n w) {r hw hw' : Nat} (hr : r < n) (hg : get r = .tok hw) (hlt : hw < hw') (c : Array Value) (el : TypeId) (m : Nat) (hm : m ≤ c.size) :
    WR ((g.withI (immAt g.I w.heap.size 0 (c.toList.take m))).put r w.heap.size m c.size) (upd get r (.tok hw')) n (w.alloc (.cells c el)) ∧
    Ext g get n w ((g.withI (immAt g.I w.heap.size 0 (c.toList.take m))).put r w.heap.size m c.size) (upd get r (.tok hw')) n (w.alloc (.cells c el)) := by
  refine WR.go (fun j => j = r) (fun _ => False) h (Nat.le_refl _) ?_ ?_ (alloc_size _ _) (fun b hb _ => alloc_old _ _ hb) (fun _ _ hd => hd.elim) ?_ ?_ ?_ ?_ ?_ ?_ ?_ ?_ ?_ rfl rfl rfl ?_ ?_
  · intro j _ hc; exact ⟨upd_ne _ _ hc, if_neg hc, if_neg hc, if_neg hc⟩
  · intro j h1 h2; omega
  · exact immAt_le fun o x hx => by rw [no_imm_new h (Nat.le_refl _)] at hx; cases hx
  · intro b o x hx
    rcases immAt_cases hx with h1 | ⟨rfl, _⟩
    · exact .inl h1
    · exact .inr (.inl (Nat.le_refl _))
  · intro b o x hx hc
    rcases immAt_cases hx with h1 | ⟨rfl, i, rfl, hi⟩
    · rcases hc with hc | hc
      · rw [no_imm_new h hc] at h1; cases h1
      · exact hc.elim
    · rw [Nat.zero_add, cell_new]
      rw [List.getElem?_take] at hi
      split at hi
      · simpa using hi
      · cases hi
  · intro j _ hc hfm; subst hc; rw [hg] at hfm; cases hfm
  · intro j _ hc _; subst hc; rw [upd_same]; simp
  · intro j _ hc h1 h2 e1 e2
    subst hc
    rw [hg] at e1; rw [upd_same] at e2
    cases e1; cases e2
    exact ⟨by omega, fun he => by omega⟩
  · intro j _ hc _; subst hc; exact .inl (by simp [G.put])
  · intro j j' _ _ hc hc' _ _ _; rw [hc, hc']
  · intro j k ver left cur _ _ _ hcm es ver' he; subst hcm; rw [upd_same] at he; cases he
  · intro e j _ hc
    subst hc
    rw [upd_same]
    refine ⟨c, el, by rw [show ((g.withI (immAt g.I w.heap.size 0 (c.toList.take m))).put j w.heap.size m c.size).mu j = w.heap.size from if_pos rfl]; exact alloc_new _ _, by simp [G.put], by simpa [G.put] using hm, fun o ho => ?_⟩
    have ho' : m ≤ o := by simpa [G.put] using ho
    show immAt g.I w.heap.size 0 (c.toList.take m) _ o = none
    rw [show ((g.withI (immAt g.I w.heap.size 0 (c.toList.take m))).put j w.heap.size m c.size).mu j = w.heap.size from if_pos rfl]
    unfold immAt
    rw [if_neg (by simp only [List.length_take, Array.length_toList]; omega)]
    exact no_imm_new h (Nat.le_refl _) o
  · intro j _ hc es ver e1; subst hc; rw [hg] at e1; cases e1

/-- Behind the end of an immutable slice, where its right to append lies. -/
theorem write_tok (h : WR g get n w) {r hw hw' : Nat} (hr : r < n) (hg : get r = .tok hw) (hlt : hw < hw') {ys : List Value} (hone : ∀ x ∈ ys, x.oneCell' = true) (hle : g.base r + ys.length ≤ g.ts r) :
    ∃ w', (storeCells ⟨g.mu r, g.base r, none⟩ ys).run P w = .ok () w' ∧
    WR ((g.withI (immAt g.I (g.mu r) (g.base r) ys)).put r (g.mu r) (g.base r + ys.length) (g.ts r)) (upd get r (.tok hw')) n w' ∧
    Ext g get n w ((g.withI (immAt g.I (g.mu r) (g.base r) ys)).put r (g.mu r) (g.base r + ys.length) (g.ts r)) (upd get r (.tok hw')) n w' := by
  have hb := h.blk r hr
  rw [hg] at hb
  obtain ⟨c, el, h1, h2, h3, h5⟩ := hb
  have hst := run_storeCells_at (P := P) (g.mu r) (g.base r) el ys 0 c w h1 (by rw [Nat.add_zero]; omega) hone
  simp only [Nat.add_zero] at hst
  have hcl : c.toList.length = c.size := Array.length_toList
  have hwh := setRow_as w _ h1 (c.toList.take (g.base r) ++ ys ++ c.toList.drop (g.base r + ys.length)).toArray
  have hlt0 := heap_lt h1
  have hnc : (w.setRow (g.mu r) (c.toList.take (g.base r) ++ ys ++ c.toList.drop (g.base r + ys.length)).toArray).heap[g.mu r]? = some (.cells (c.toList.take (g.base r) ++ ys ++ c.toList.drop (g.base r + ys.length)).toArray el (0, 0)) := by rw [hwh]; simp [hlt0]
  have hgm : ∀ (I : Imm) (j a b t : Nat), ((g.withI I).put j a b t).mu j = a := fun _ _ _ _ _ => if_pos rfl
  refine ⟨_, hst, WR.go (fun j => j = r) (fun b => b = g.mu r) h (Nat.le_refl _) ?_ ?_ ?_ ?_ ?_ ?_ ?_ ?_ ?_ ?_ ?_ ?_ ?_ ?_ rfl rfl rfl ?_ ?_⟩
  · intro j _ hc; exact ⟨upd_ne _ _ hc, if_neg hc, if_neg hc, if_neg hc⟩
  · intro j h1 h2; omega
  · rw [hwh]; simp
  · intro b _ hd; rw [hwh, Array.getElem?_setIfInBounds_ne (Ne.symm hd)]
  · intro b _ hd; exact ⟨r, hr, rfl, by rw [hg]; rfl, hd.symm⟩
  · exact immAt_le fun o x hx ho _ => by rw [h5 o ho] at hx; cases hx
  · intro b o x hx
    rcases immAt_cases hx with h6 | ⟨rfl, _⟩
    · exact .inl h6
    · exact .inr (.inr rfl)
  · intro b o x hx hc
    rcases immAt_cases hx with h6 | ⟨rfl, i, rfl, hi⟩
    · rcases hc with hc | rfl
      · rw [no_imm_new h hc] at h6; cases h6
      · have ho : o < g.base r := by
          rcases Nat.lt_or_ge o (g.base r) with hh | hh
          · exact hh
          · rw [h5 o hh] at h6; cases h6
        have hx' := h.imm _ o x h6
        unfold World.cell? at hx' ⊢
        rw [h1] at hx'
        rw [hnc]
        simp only [Option.isSome_none, Bool.false_eq_true, if_false] at hx' ⊢
        simp only [List.getElem?_toArray]
        rw [List.append_assoc, List.getElem?_append, if_pos (by simp only [List.length_take]; omega), List.getElem?_take, if_pos ho]
        simpa using hx'
    · have hil : i < ys.length := (List.getElem?_eq_some_iff.1 hi).1
      unfold World.cell?
      rw [hnc]
      simp only [Option.isSome_none, Bool.false_eq_true, if_false, List.getElem?_toArray]
      have e1 : (c.toList.take (g.base r)).length = g.base r := by simp only [List.length_take]; omega
      rw [List.append_assoc, List.getElem?_append, e1, if_neg (by omega), show g.base r + i - g.base r = i by omega, List.getElem?_append, if_pos hil]
      exact hi
  · intro j _ hc hfm; subst hc; rw [hg] at hfm; cases hfm
  · intro j _ hc _; subst hc; rw [upd_same]; simp
  · intro j _ hc a1 a2 e1 e2
    subst hc
    rw [hg] at e1; rw [upd_same] at e2
    cases e1; cases e2
    exact ⟨by omega, fun he => by omega⟩
  · intro j _ hc _; subst hc; exact .inr ⟨j, hr, rfl, by rw [hg]; rfl, (hgm _ _ _ _ _).symm⟩
  · intro j j' _ _ hc hc' _ _ _; rw [hc, hc']
  · intro j k ver left cur _ _ _ hcm es ver' he; subst hcm; rw [upd_same] at he; cases he
  · intro e j _ hc
    subst hc
    rw [upd_same]
    refine ⟨_, el, by rw [hgm]; exact hnc, ?_, ?_, fun o ho => ?_⟩
    · simp only [G.put, if_true, List.size_toArray, List.length_append, List.length_take, List.length_drop]; omega
    · simp only [G.put, if_true, List.size_toArray, List.length_append, List.length_take, List.length_drop]; omega
    · have ho' : g.base j + ys.length ≤ o := by simpa [G.put] using ho
      show immAt g.I (g.mu j) (g.base j) ys _ o = none
      rw [hgm]
      unfold immAt
      rw [if_neg (by omega)]
      exact h5 o (by omega)
  · intro j _ hc es ver e1; subst hc; rw [hg] at e1; cases e1

end
end Go.Ae

/- The abstract evaluator: append: rows. -/
namespace Go.Ae
variable {P : Program}
section
variable {g : G} {get : Nat → Blk} {n : Nat} {w : World}

/-- A new row, whose block has more cells. -/
theorem new_row_pre (h : WR g get n w) {nid : Nat} (hf : Fresh get n nid) {cs : List V} {c : Array Value} (k : Nat) (hc : vrl g.I (g.at get n) cs (c.toList.take cs.length)) (hle : cs.length ≤ c.size) (el : TypeId) :
    WR (g.put nid w.heap.size 0 c.size) (upd get nid (.row k cs)) (max n (nid + 1)) (w.alloc (.cells c el)) ∧ Ext g get n w (g.put nid w.heap.size 0 c.size) (upd get nid (.row k cs)) (max n (nid + 1)) (w.alloc (.cells c el)) := by
  refine h.new hf _ _ _ _ fun e => ?_
  have h1 : (g.put nid w.heap.size 0 c.size).mu nid = w.heap.size := if_pos rfl
  have h2 : (g.put nid w.heap.size 0 c.size).base nid = 0 := if_pos rfl
  have h3 : (g.put nid w.heap.size 0 c.size).ts nid = c.size := if_pos rfl
  refine ⟨c, el, by rw [h1]; exact alloc_new _ _, h3.symm, by rw [h2]; omega, fun i v hv => ?_, fun o _ => by rw [h1]; exact no_imm_new h (Nat.le_refl _) o⟩
  obtain ⟨x, hx, hvr⟩ := vrl_get hc hv
  have hi : i < cs.length := (List.getElem?_eq_some_iff.1 hv).1
  rw [List.getElem?_take, if_pos hi] at hx
  exact ⟨x, by rw [h2, Nat.zero_add]; simpa using hx, e.vr hvr⟩

theorem fresh_ne {nid r : Nat} (hf : Fresh get n nid) (hr : r < n) (hl : (get r).live = true) : r ≠ nid := by
  rintro rfl
  rw [hf.2 hr] at hl
  cases hl

theorem not_map (h : WR g get n w) {r : Nat} (hr : r < n) {c : Array Value} {el : TypeId} {f : Nat × Nat} (hc : w.heap[g.mu r]? = some (.cells c el f)) (es : List (V × V)) (ver : Nat) : get r ≠ .map es ver := by
  intro e
  have hb := h.blk r hr
  rw [e] at hb
  obtain ⟨ents, clock, h1, _⟩ := hb
  rw [hc] at h1; cases h1

/-- A block goes on as a row under a new number: its own cells were written. -/
theorem move_in (h : WR g get n w) {nid r : Nat} (hf : Fresh get n nid) (hr : r < n) (hl : (get r).live = true) (hnm : ∀ es ver, get r ≠ .map es ver) {c c' : Array Value} {el : TypeId} (hc : w.heap[g.mu r]? = some (.cells c el (0, 0))) (hts : c.size = g.ts r) (hs : c'.size = c.size)
    {w' : World} (hw : w'.heap = w.heap.setIfInBounds (g.mu r) (.cells c' el (0, 0))) (htape : w'.tape = w.tape) (hos : w'.os = w.os) (hout : w'.output = w.output) {L base k : Nat} (hI : ∀ o, L ≤ o → g.I (g.mu r) o = none) (hk : ∀ o, o < L → c'[o]? = c[o]?) (hL : L ≤ base + k)
    {cs : List V} (hle : base + cs.length ≤ c.size) (hnew : ∀ (i : Nat) (v : V), cs[i]? = some v → ∃ x, c'[base + i]? = some x ∧ vr g.I (g.at get n) v x) :
    WR (g.put nid (g.mu r) base (g.ts r)) (upd (upd get r .gone) nid (.row k cs)) (max n (nid + 1)) w' ∧ Ext g get n w (g.put nid (g.mu r) base (g.ts r)) (upd (upd get r .gone) nid (.row k cs)) (max n (nid + 1)) w' := by
  have hne := fresh_ne hf hr hl
  have hres : ∀ j, j < n → j = nid → get j = .resv := fun j hj e => by subst e; exact hf.2 hj
  have hlt0 := heap_lt hc
  have hnc : w'.heap[g.mu r]? = some (.cells c' el (0, 0)) := by rw [hw]; simp [hlt0]
  have ur : upd (upd get r .gone) nid (.row k cs) r = .gone := by rw [upd_ne _ _ hne, upd_same]
  refine WR.go (fun j => j = r ∨ j = nid) (fun b => b = g.mu r) h (Nat.le_max_left _ _) ?_ ?_ ?_ ?_ ?_ (Imm.le_refl _) (fun _ _ _ hx => .inl hx) ?_ ?_ ?_ ?_ ?_ ?_ ?_ htape hos hout ?_ ?_
  · intro j _ hj
    have j1 : j ≠ r := fun e => hj (.inl e)
    have j2 : j ≠ nid := fun e => hj (.inr e)
    exact ⟨by rw [upd_ne _ _ j2, upd_ne _ _ j1], if_neg j2, if_neg j2, if_neg j2⟩
  · intro j h1 h2; exact .inr (by have := hf.1; omega)
  · rw [hw]; simp
  · intro b _ hd; rw [hw, Array.getElem?_setIfInBounds_ne (Ne.symm hd)]
  · intro b _ hd; exact ⟨r, hr, .inl rfl, hl, hd.symm⟩
  · intro b o x hx hd
    have hx : g.I b o = some x := hx
    have hx' := h.imm b o x hx
    rcases hd with hd | rfl
    · rw [no_imm_new h hd] at hx; cases hx
    · have ho : o < L := by
        rcases Nat.lt_or_ge o L with hh | hh
        · exact hh
        · rw [hI o hh] at hx; cases hx
      unfold World.cell? at hx' ⊢
      rw [hc] at hx'
      rw [hnc]
      simpa [hk o ho] using hx'
  · intro j hj hjr hfm
    rcases hjr with rfl | e
    · exact ⟨by rw [ur]; rfl, if_neg hne, if_neg hne, if_neg hne⟩
    · rw [hres j hj e] at hfm; cases hfm
  · intro j hj hjr hk'
    rcases hjr with rfl | e
    · rw [ur]; simp
    · exact absurd (hres j hj e) hk'
  · intro j hj hjr h1 h2 e1 e2
    rcases hjr with rfl | e
    · rw [ur] at e2; cases e2
    · rw [hres j hj e] at e1; cases e1
  · intro j _ hjr hl'
    rcases hjr with rfl | rfl
    · rw [ur] at hl'; cases hl'
    · exact .inr ⟨r, hr, .inl rfl, hl, by simp [G.put]⟩
  · intro j j' _ _ hj hj' hl1 hl2 _
    rcases hj with rfl | rfl
    · rw [ur] at hl1; cases hl1
    · rcases hj' with rfl | rfl
      · rw [ur] at hl2; cases hl2
      · rfl
  · intro j m ver left cur _ _ _ hm es ver' he
    rcases hm with rfl | rfl
    · rw [ur] at he; cases he
    · rw [upd_same] at he; cases he
  · intro e j _ hj
    rcases hj with rfl | rfl
    · rw [ur]; trivial
    · rw [upd_same]
      have h1 : (g.put j (g.mu r) base (g.ts r)).mu j = g.mu r := if_pos rfl
      have h2 : (g.put j (g.mu r) base (g.ts r)).base j = base := if_pos rfl
      have h3 : (g.put j (g.mu r) base (g.ts r)).ts j = g.ts r := if_pos rfl
      refine ⟨c', el, by rw [h1]; exact hnc, by rw [h3, hs, hts], by rw [h2, hs]; exact hle, fun i v hv => ?_, fun o ho => ?_⟩
      · obtain ⟨x, hx, hvr⟩ := hnew i v hv
        exact ⟨x, by rw [h2]; exact hx, e.vr hvr⟩
      · rw [h1]; rw [h2] at ho; exact hI o (by omega)
  · intro j hj hjr es ver e1
    rcases hjr with rfl | e
    · exact absurd e1 (hnm _ _)
    · rw [hres j hj e] at e1; cases e1

/-- The same, in a new block. -/
theorem move_new (h : WR g get n w) {nid r : Nat} (hf : Fresh get n nid) (hr : r < n) (hl : (get r).live = true) (hnm : ∀ es ver, get r ≠ .map es ver) (c : Array Value) (el : TypeId) {k : Nat} {cs : List V} (hc : vrl g.I (g.at get n) cs (c.toList.take cs.length)) (hle : cs.length ≤ c.size) :
    WR (g.put nid w.heap.size 0 c.size) (upd (upd get r .gone) nid (.row k cs)) (max n (nid + 1)) (w.alloc (.cells c el)) ∧ Ext g get n w (g.put nid w.heap.size 0 c.size) (upd (upd get r .gone) nid (.row k cs)) (max n (nid + 1)) (w.alloc (.cells c el)) := by
  have hne := fresh_ne hf hr hl
  have hres : ∀ j, j < n → j = nid → get j = .resv := fun j hj e => by subst e; exact hf.2 hj
  have ur : upd (upd get r .gone) nid (.row k cs) r = .gone := by rw [upd_ne _ _ hne, upd_same]
  refine WR.go (fun j => j = r ∨ j = nid) (fun _ => False) h (Nat.le_max_left _ _) ?_ ?_ (alloc_size _ _) (fun b hb _ => alloc_old _ _ hb) (fun _ _ hd => hd.elim) (Imm.le_refl _) (fun _ _ _ hx => .inl hx) ?_ ?_ ?_ ?_ ?_ ?_ ?_ rfl rfl rfl ?_ ?_
  · intro j _ hj
    have j1 : j ≠ r := fun e => hj (.inl e)
    have j2 : j ≠ nid := fun e => hj (.inr e)
    exact ⟨by rw [upd_ne _ _ j2, upd_ne _ _ j1], if_neg j2, if_neg j2, if_neg j2⟩
  · intro j h1 h2; exact .inr (by have := hf.1; omega)
  · intro b o x hx hd
    have hx : g.I b o = some x := hx
    rcases hd with hd | hd
    · rw [no_imm_new h hd] at hx; cases hx
    · exact hd.elim
  · intro j hj hjr hfm
    rcases hjr with rfl | e
    · exact ⟨by rw [ur]; rfl, if_neg hne, if_neg hne, if_neg hne⟩
    · rw [hres j hj e] at hfm; cases hfm
  · intro j hj hjr hk'
    rcases hjr with rfl | e
    · rw [ur]; simp
    · exact absurd (hres j hj e) hk'
  · intro j hj hjr h1 h2 e1 e2
    rcases hjr with rfl | e
    · rw [ur] at e2; cases e2
    · rw [hres j hj e] at e1; cases e1
  · intro j _ hjr hl'
    rcases hjr with rfl | rfl
    · rw [ur] at hl'; cases hl'
    · exact .inl (by simp [G.put])
  · intro j j' _ _ hj hj' hl1 hl2 _
    rcases hj with rfl | rfl
    · rw [ur] at hl1; cases hl1
    · rcases hj' with rfl | rfl
      · rw [ur] at hl2; cases hl2
      · rfl
  · intro j m ver left cur _ _ _ hm es ver' he
    rcases hm with rfl | rfl
    · rw [ur] at he; cases he
    · rw [upd_same] at he; cases he
  · intro e j _ hj
    rcases hj with rfl | rfl
    · rw [ur]; trivial
    · rw [upd_same]
      have h1 : (g.put j w.heap.size 0 c.size).mu j = w.heap.size := if_pos rfl
      have h2 : (g.put j w.heap.size 0 c.size).base j = 0 := if_pos rfl
      have h3 : (g.put j w.heap.size 0 c.size).ts j = c.size := if_pos rfl
      refine ⟨c, el, by rw [h1]; exact alloc_new _ _, h3.symm, by rw [h2]; omega, fun i v hv => ?_, fun o ho => by rw [h1]; exact no_imm_new h (Nat.le_refl _) o⟩
      obtain ⟨x, hx, hvr⟩ := vrl_get hc hv
      have hi : i < cs.length := (List.getElem?_eq_some_iff.1 hv).1
      rw [List.getElem?_take, if_pos hi] at hx
      exact ⟨x, by rw [h2, Nat.zero_add]; simpa using hx, e.vr hvr⟩
  · intro j hj hjr es ver e1
    rcases hjr with rfl | e
    · exact absurd e1 (hnm _ _)
    · rw [hres j hj e] at e1; cases e1

/-- What is appended. -/
theorem src_sound (h : WR g get n w) {x : V} {x' : Value} (hx : vr g.I (g.at get n) x x') {cs : List V} {m : Nat} {rs : List Nat} (hs : sliceCells get x = some (cs, m, rs)) {size : Nat} (hl : cs.length = m * size) :
    ∃ ys : List Value, vrl g.I (g.at get n) cs ys ∧ (Builtin.lenOf x').run P w = .ok m w ∧ ∀ w1 : World, w1.heap = w.heap → (Builtin.firstCells size m x').run P w1 = .ok ys.toArray w1 := by
  unfold sliceCells at hs
  cases x with
  | nils =>
    obtain ⟨rfl, rfl, _⟩ : [] = cs ∧ 0 = m ∧ _ := by simpa using hs
    simp only [vr] at hx; subst hx
    exact ⟨[], by simp [vrl], rfl, fun _ _ => rfl⟩
  | vs ds len sz own =>
    obtain ⟨rfl, rfl, _⟩ : ds = cs ∧ len = m ∧ _ := by simpa using hs
    simp only [vr] at hx
    obtain ⟨b, o, cap, rfl, _, h2, hra, _⟩ := hx
    obtain ⟨ys, h3, h4⟩ := holds_imm h.imm hra
    refine ⟨ys, vrl_mono (Imm.le_refl _) (At.bot_le _) h3, rfl, fun w1 hw1 => ?_⟩
    have hh : Holds w1 b o ys := fun i y hy => by
      have := h4 i y hy
      unfold World.cell? at this ⊢
      rw [hw1]; exact this
    unfold Builtin.firstCells
    simp only
    rw [← hl, ← vrl_len h3]
    exact hh.load
  | hs r off len cap sz ex =>
    simp only [vr] at hx
    obtain ⟨a, c, rfl, hr, _, rfl, _⟩ := hx
    simp only at hs
    cases hg : get r with
    | row k ds =>
      simp only [hg] at hs
      split at hs
      · rename_i hle
        obtain ⟨rfl, rfl, _⟩ : _ = cs ∧ len = m ∧ _ := by simpa using hs
        obtain ⟨cc, el, xs, h1, h2, h3, h4, h5, h6, h7⟩ := row_vals h hr hg
        refine ⟨(xs.drop off).take (len * sz), vrl_take (vrl_drop h4 off) _, rfl, fun w1 hw1 => ?_⟩
        have hh : Holds w1 (g.mu r) (g.base r + off) ((xs.drop off).take (len * sz)) := fun i y hy => by
          have := ((h6.drop off).take (len * sz)) i y hy
          unfold World.cell? at this ⊢
          rw [hw1]; exact this
        unfold Builtin.firstCells
        simp only
        have e1 : ((xs.drop off).take (len * sz)).length = len * size := by rw [vrl_len (vrl_take (vrl_drop h4 off) (len * sz))]; exact hl
        rw [← e1]
        exact hh.load
      · cases hs
    | _ => simp [hg] at hs
  | _ => cases hs

end
end Go.Ae

/- The abstract evaluator: append. -/
namespace Go.Ae
variable {P : Program}
section
variable {g : G} {get : Nat → Blk} {n : Nat} {w : World}

/-- What is asked of a run. -/
def Run1 (P : Program) (s : Sem Value) (g : G) (get : Nat → Blk) (n : Nat) (w : World) (nid : Nat) (e : Eff) : Prop :=
  ∃ y w' g', s.run P w = .ok y w' ∧ WR g' (e.upd get nid) (e.top n nid) w' ∧ Ext g get n w g' (e.upd get nid) (e.top n nid) w' ∧ vr g'.I (g'.at (e.upd get nid) (e.top n nid)) e.v y

theorem seals_len : ∀ (l : List V), (V.seals l).length = l.length
  | [] => rfl
  | _ :: l => by simp [V.seals, seals_len l]

theorem take_all {α : Type} (a b c : List α) : (a ++ b ++ c).take (a.length + b.length) = a ++ b := by
  rw [← List.length_append, List.take_left']
  rfl

/-- It had to grow, out of nothing or out of a full slice: as a value. -/
theorem grown_val (h : WR g get n w) {nid : Nat} (hf : Fresh get n nid) {cs new : List V} {xs ys : List Value} (hc : vrl g.I At.bot cs xs) (hn : vrl g.I (g.at get n) new ys) (hp : V.pures (V.seals new) = true) {len m sz cap : Nat} (hcl : cs.length = len * sz) (hnl : new.length = m * sz)
    {c rest : Array Value} (hcc : c = xs.toArray ++ ys.toArray ++ rest) (hrs : rest.size = (cap - (len + m)) * sz) (hcap : len + m ≤ cap) (el : TypeId) {s : Sem Value} (hrun : s.run P w = .ok (.slice (some ⟨w.heap.size, 0, none⟩) (len + m) cap) ({ w with drawn := w.drawn + 1 }.alloc (.cells c el))) {rs : List Nat} :
    Run1 P s g get n w nid { v := .vs (cs ++ V.seals new) (len + m) sz (.tok nid (len + m)), rd := rs, nw := [.tok (len + m)] } := by
  have hxl : xs.length = len * sz := by rw [vrl_len hc]; exact hcl
  have hyl : ys.length = m * sz := by rw [vrl_len hn]; exact hnl
  have hM : (len + m) * sz = xs.length + ys.length := by rw [Nat.add_mul, hxl, hyl]
  have hcs : c.size = cap * sz := by
    have : (len + m) * sz + (cap - (len + m)) * sz = cap * sz := mul_split hcap
    rw [hcc]
    simp only [Array.size_append, List.size_toArray, hrs]
    omega
  have hle : (len + m) * sz ≤ c.size := by rw [hcs]; exact Nat.mul_le_mul_right _ hcap
  have htk : c.toList.take ((len + m) * sz) = xs ++ ys := by
    rw [hcc, hM]; simp only [Array.toList_append]; exact take_all _ _ _
  obtain ⟨hW, hE⟩ := grow_val (h.drew (w.drawn + 1)) hf c el ((len + m) * sz) (len + m) hle
  have hE' := (Ext.drew g get n w (w.drawn + 1)).trans hE
  refine ⟨_, _, _, hrun, hW, hE', ?_⟩
  have hnb := vrl_pure hp (vrl_seals hn)
  simp only [vr]
  refine ⟨w.heap.size, 0, cap, rfl, hcap, ?_, ?_, ?_⟩
  · rw [List.length_append, seals_len, hcl, hnl, Nat.add_mul]
  · refine vra_of_vals (xs := xs ++ ys) (vrl_mono hE'.I_le (At.le_refl _) (vrl_append hc hnb)) fun i x hx => ?_
    rw [← htk] at hx
    exact immAt_in hx
  · show (G.at _ _ _).tok nid (len + m) w.heap.size (0 + (len + m) * sz) (0 + cap * sz)
    refine ⟨by show nid < max n (nid + 1); omega, by show upd get nid _ nid ≠ _; rw [upd_same]; simp, fun hw hg => ?_⟩
    have hg' : upd get nid (.tok (len + m)) nid = .tok hw := hg
    rw [upd_same] at hg'
    cases hg'
    refine ⟨Nat.le_refl _, fun _ => ⟨?_, ?_, ?_⟩⟩
    · simp [G.put]
    · simp [G.put]
    · simp [G.put, hcs]

/-- The same as a row. -/
theorem grown_row (h : WR g get n w) {nid : Nat} (hf : Fresh get n nid) {cs new : List V} {xs ys : List Value} (hc : vrl g.I (g.at get n) cs xs) (hn : vrl g.I (g.at get n) new ys) {len m sz cap : Nat} (hcl : cs.length = len * sz) (hnl : new.length = m * sz)
    {c rest : Array Value} (hcc : c = xs.toArray ++ ys.toArray ++ rest) (hrs : rest.size = (cap - (len + m)) * sz) (hcap : len + m ≤ cap) (el : TypeId) {s : Sem Value} (hrun : s.run P w = .ok (.slice (some ⟨w.heap.size, 0, none⟩) (len + m) cap) ({ w with drawn := w.drawn + 1 }.alloc (.cells c el))) {rs : List Nat} :
    Run1 P s g get n w nid { v := .hs nid 0 (len + m) (len + m) sz false, rd := rs, nw := [.row 0 (cs ++ new)] } := by
  have hxl : xs.length = len * sz := by rw [vrl_len hc]; exact hcl
  have hyl : ys.length = m * sz := by rw [vrl_len hn]; exact hnl
  have hM : (len + m) * sz = xs.length + ys.length := by rw [Nat.add_mul, hxl, hyl]
  have hcs : c.size = cap * sz := by
    have : (len + m) * sz + (cap - (len + m)) * sz = cap * sz := mul_split hcap
    rw [hcc]
    simp only [Array.size_append, List.size_toArray, hrs]
    omega
  have hle : (len + m) * sz ≤ c.size := by rw [hcs]; exact Nat.mul_le_mul_right _ hcap
  have hcn : (cs ++ new).length = (len + m) * sz := by rw [List.length_append, hcl, hnl, Nat.add_mul]
  have htk : c.toList.take ((cs ++ new).length) = xs ++ ys := by
    rw [hcn, hcc, hM]; simp only [Array.toList_append]; exact take_all _ _ _
  obtain ⟨hW, hE⟩ := new_row_pre (h.drew (w.drawn + 1)) hf (cs := cs ++ new) (c := c) 0 (by rw [htk]; exact vrl_append hc hn) (by rw [hcn]; exact hle) el
  refine ⟨_, _, _, hrun, hW, (Ext.drew g get n w (w.drawn + 1)).trans hE, ?_⟩
  simp only [vr]
  refine ⟨⟨w.heap.size, 0, none⟩, cap, rfl, by show nid < max n (nid + 1); omega, by show (upd get nid _ nid).firm = true; rw [upd_same]; rfl, by simp [G.put], Nat.le_refl _, hcap, (by simp), ?_⟩
  simp [G.put, hcs]

/-- A right to append: in place, as a value. -/
theorem tok_in (h : WR g get n w) {nid r hw : Nat} (hr : r < n) (hg : get r = .tok hw) {cs new : List V} {ys : List Value} {b o cap len m sz : Nat} (hra : vra g.I b o cs) (hb : b = g.mu r) (hk : o + len * sz = g.base r) (hce : o + cap * sz ≤ g.ts r) (hcl : cs.length = len * sz)
    (hn : vrl g.I (g.at get n) new ys) (hp : V.pures (V.seals new) = true) (hone : V.ones new = true) (hnl : new.length = m * sz) (hpos : 0 < m) (hcap : len + m ≤ cap) {s : Sem Value}
    (hrun : ∀ w', (storeCells ⟨b, o + len * sz, none⟩ ys).run P w = .ok () w' → s.run P w = .ok (.slice (some ⟨b, o, none⟩) (len + m) cap) w') {rs : List Nat} :
    Run1 P s g get n w nid { v := .vs (cs ++ V.seals new) (len + m) sz (.tok r (hw + m)), rd := rs, wr := [(r, .tok (hw + m))] } := by
  subst hb
  have hyl : ys.length = m * sz := by rw [vrl_len hn]; exact hnl
  have hM : (len + m) * sz = len * sz + m * sz := Nat.add_mul _ _ _
  have hMc : (len + m) * sz ≤ cap * sz := Nat.mul_le_mul_right _ hcap
  obtain ⟨w', hst, hW, hE⟩ := write_tok (P := P) h hr hg (hw' := hw + m) (by omega) (ones_one hone hn) (by omega)
  refine ⟨_, _, _, hrun w' (by rw [hk]; exact hst), hW, hE, ?_⟩
  have hnb := vrl_pure hp (vrl_seals hn)
  simp only [vr]
  refine ⟨g.mu r, o, cap, rfl, hcap, ?_, ?_, ?_⟩
  · rw [List.length_append, seals_len, hcl, hnl, Nat.add_mul]
  · refine vra_append (vra_mono hE.I_le hra) ?_
    rw [hcl, hk]
    exact vra_of_vals (vrl_mono hE.I_le (At.le_refl _) hnb) fun i x hx => immAt_in hx
  · show (G.at _ _ _).tok r (hw + m) (g.mu r) (o + (len + m) * sz) (o + cap * sz)
    refine ⟨hr, by show upd get r _ r ≠ _; rw [upd_same]; simp, fun hw' hg' => ?_⟩
    have hg'' : upd get r (.tok (hw + m)) r = .tok hw' := hg'
    rw [upd_same] at hg''
    cases hg''
    refine ⟨Nat.le_refl _, fun _ => ⟨?_, ?_, ?_⟩⟩
    · simp [G.put]
    · simp only [G.put, if_true]; omega
    · simp only [G.put, if_true]; exact hce

/-- A right to append: it had to grow. -/
theorem tok_grow (h : WR g get n w) {nid r hw : Nat} (hr : r < n) (hg : get r = .tok hw) {cs new : List V} {xs ys : List Value} (hc : vrl g.I At.bot cs xs) (hn : vrl g.I (g.at get n) new ys) (hp : V.pures (V.seals new) = true) {len m sz cap : Nat} (hcl : cs.length = len * sz) (hnl : new.length = m * sz) (hpos : 0 < m)
    {c rest : Array Value} (hcc : c = xs.toArray ++ ys.toArray ++ rest) (hrs : rest.size = (cap - (len + m)) * sz) (hcap : len + m ≤ cap) (el : TypeId) {s : Sem Value} (hrun : s.run P w = .ok (.slice (some ⟨w.heap.size, 0, none⟩) (len + m) cap) ({ w with drawn := w.drawn + 1 }.alloc (.cells c el))) {rs : List Nat} :
    Run1 P s g get n w nid { v := .vs (cs ++ V.seals new) (len + m) sz (.tok r (hw + m)), rd := rs, wr := [(r, .tok (hw + m))] } := by
  have hxl : xs.length = len * sz := by rw [vrl_len hc]; exact hcl
  have hyl : ys.length = m * sz := by rw [vrl_len hn]; exact hnl
  have hM : (len + m) * sz = xs.length + ys.length := by rw [Nat.add_mul, hxl, hyl]
  have hcs : c.size = cap * sz := by
    have : (len + m) * sz + (cap - (len + m)) * sz = cap * sz := mul_split hcap
    rw [hcc]
    simp only [Array.size_append, List.size_toArray, hrs]
    omega
  have hle : (len + m) * sz ≤ c.size := by rw [hcs]; exact Nat.mul_le_mul_right _ hcap
  have htk : c.toList.take ((len + m) * sz) = xs ++ ys := by
    rw [hcc, hM]; simp only [Array.toList_append]; exact take_all _ _ _
  obtain ⟨hW, hE⟩ := grow_tok (h.drew (w.drawn + 1)) hr hg (hw' := hw + m) (by omega) c el ((len + m) * sz) hle
  have hE' := (Ext.drew g get n w (w.drawn + 1)).trans hE
  refine ⟨_, _, _, hrun, hW, hE', ?_⟩
  have hnb := vrl_pure hp (vrl_seals hn)
  simp only [vr]
  refine ⟨w.heap.size, 0, cap, rfl, hcap, ?_, ?_, ?_⟩
  · rw [List.length_append, seals_len, hcl, hnl, Nat.add_mul]
  · refine vra_of_vals (xs := xs ++ ys) (vrl_mono hE'.I_le (At.le_refl _) (vrl_append hc hnb)) fun i x hx => ?_
    rw [← htk] at hx
    exact immAt_in hx
  · show (G.at _ _ _).tok r (hw + m) w.heap.size (0 + (len + m) * sz) (0 + cap * sz)
    refine ⟨hr, by show upd get r _ r ≠ _; rw [upd_same]; simp, fun hw' hg' => ?_⟩
    have hg'' : upd get r (.tok (hw + m)) r = .tok hw' := hg'
    rw [upd_same] at hg''
    cases hg''
    refine ⟨Nat.le_refl _, fun _ => ⟨?_, ?_, ?_⟩⟩
    · simp [G.put]
    · simp [G.put]
    · simp [G.put, hcs]

/-- A block goes on as a row: in place. L: from where on it may be written. -/
theorem row_in (h : WR g get n w) {nid r : Nat} (hf : Fresh get n nid) (hr : r < n) (hl : (get r).live = true) {cc : Array Value} {el : TypeId} (hh : w.heap[g.mu r]? = some (.cells cc el (0, 0))) (hts : cc.size = g.ts r) {o L k : Nat} (hI : ∀ j, L ≤ j → g.I (g.mu r) j = none) (hLk : L ≤ o + k)
    {cs new : List V} {xs ys : List Value} (hc : vrl g.I (g.at get n) cs xs) (hx : xs = (cc.toList.drop o).take xs.length) (hn : vrl g.I (g.at get n) new ys) (hone : V.ones new = true) {len m sz cap : Nat} (hcl : cs.length = len * sz) (hnl : new.length = m * sz) (hLo : L ≤ o + len * sz)
    (hce : o + cap * sz ≤ g.ts r) (hcap : len + m ≤ cap) {s : Sem Value} (hrun : ∀ w', (storeCells ⟨g.mu r, o + len * sz, none⟩ ys).run P w = .ok () w' → s.run P w = .ok (.slice (some ⟨g.mu r, o, none⟩) (len + m) cap) w') {rs : List Nat} :
    Run1 P s g get n w nid { v := .hs nid 0 (len + m) (len + m) sz false, rd := rs, wr := [(r, .gone)], nw := [.row k (cs ++ new)] } := by
  have hxl : xs.length = len * sz := by rw [vrl_len hc]; exact hcl
  have hyl : ys.length = m * sz := by rw [vrl_len hn]; exact hnl
  have hM : (len + m) * sz = len * sz + m * sz := Nat.add_mul _ _ _
  have hMc : (len + m) * sz ≤ cap * sz := Nat.mul_le_mul_right _ hcap
  have hcl' : cc.toList.length = cc.size := Array.length_toList
  have hst := run_storeCells_at (P := P) (g.mu r) (o + len * sz) el ys 0 cc w hh (by rw [Nat.add_zero]; omega) (ones_one hone hn)
  simp only [Nat.add_zero] at hst
  have hcn : (cs ++ new).length = (len + m) * sz := by rw [List.length_append, hcl, hnl, Nat.add_mul]
  obtain ⟨hW, hE⟩ := move_in h hf hr hl (not_map h hr hh) hh hts (c' := (cc.toList.take (o + len * sz) ++ ys ++ cc.toList.drop (o + len * sz + ys.length)).toArray)
    (by simp only [List.size_toArray, List.length_append, List.length_take, List.length_drop]; omega) (setRow_as w _ hh _) rfl rfl rfl (L := L) (base := o) (k := k) hI
    (fun j hj => by
      simp only [List.getElem?_toArray]
      rw [List.append_assoc, List.getElem?_append, if_pos (by simp only [List.length_take]; omega), List.getElem?_take, if_pos (by omega)]
      simp) hLk (cs := cs ++ new) (by rw [hcn]; omega)
    (fun i v hv => by
      have hi : i < (cs ++ new).length := (List.getElem?_eq_some_iff.1 hv).1
      rw [hcn] at hi
      obtain ⟨x, hx1, hx2⟩ := vrl_get (vrl_append hc hn) hv
      refine ⟨x, ?_, hx2⟩
      simp only [List.getElem?_toArray]
      rw [List.append_assoc, List.getElem?_append]
      have e2 : (cc.toList.take (o + len * sz)).length = o + len * sz := by simp only [List.length_take]; omega
      rw [e2]
      rw [List.getElem?_append, hxl] at hx1
      by_cases hil : i < len * sz
      · rw [if_pos hil, hx, List.getElem?_take, if_pos (by rw [hxl]; exact hil), List.getElem?_drop] at hx1
        rw [if_pos (by omega), List.getElem?_take, if_pos (by omega)]
        exact hx1
      · rw [if_neg hil] at hx1
        rw [if_neg (by omega), List.getElem?_append, if_pos (by omega), show o + i - (o + len * sz) = i - len * sz by omega]
        exact hx1)
  refine ⟨_, _, _, hrun _ hst, hW, hE, ?_⟩
  simp only [vr]
  refine ⟨⟨g.mu r, o, none⟩, cap, rfl, by show nid < max n (nid + 1); omega, by show (upd _ nid _ nid).firm = true; rw [upd_same]; rfl, by simp [G.put], Nat.le_refl _, hcap, (by simp), ?_⟩
  simp only [G.put, if_true, Nat.add_zero]; exact hce

/-- The same: it had to grow. -/
theorem row_grow (h : WR g get n w) {nid r : Nat} (hf : Fresh get n nid) (hr : r < n) (hl : (get r).live = true) (hnm : ∀ es ver, get r ≠ .map es ver) {cs new : List V} {xs ys : List Value} (hc : vrl g.I (g.at get n) cs xs) (hn : vrl g.I (g.at get n) new ys) {len m sz cap : Nat} (hcl : cs.length = len * sz) (hnl : new.length = m * sz) (k : Nat)
    {c rest : Array Value} (hcc : c = xs.toArray ++ ys.toArray ++ rest) (hrs : rest.size = (cap - (len + m)) * sz) (hcap : len + m ≤ cap) (el : TypeId) {s : Sem Value} (hrun : s.run P w = .ok (.slice (some ⟨w.heap.size, 0, none⟩) (len + m) cap) ({ w with drawn := w.drawn + 1 }.alloc (.cells c el))) {rs : List Nat} :
    Run1 P s g get n w nid { v := .hs nid 0 (len + m) (len + m) sz false, rd := rs, wr := [(r, .gone)], nw := [.row k (cs ++ new)] } := by
  have hxl : xs.length = len * sz := by rw [vrl_len hc]; exact hcl
  have hyl : ys.length = m * sz := by rw [vrl_len hn]; exact hnl
  have hM : (len + m) * sz = xs.length + ys.length := by rw [Nat.add_mul, hxl, hyl]
  have hcs : c.size = cap * sz := by
    have : (len + m) * sz + (cap - (len + m)) * sz = cap * sz := mul_split hcap
    rw [hcc]
    simp only [Array.size_append, List.size_toArray, hrs]
    omega
  have hle : (len + m) * sz ≤ c.size := by rw [hcs]; exact Nat.mul_le_mul_right _ hcap
  have hcn : (cs ++ new).length = (len + m) * sz := by rw [List.length_append, hcl, hnl, Nat.add_mul]
  have htk : c.toList.take ((cs ++ new).length) = xs ++ ys := by
    rw [hcn, hcc, hM]; simp only [Array.toList_append]; exact take_all _ _ _
  obtain ⟨hW, hE⟩ := move_new (h.drew (w.drawn + 1)) hf hr hl hnm c el (k := k) (cs := cs ++ new) (by rw [htk]; exact vrl_append hc hn) (by rw [hcn]; exact hle)
  refine ⟨_, _, _, hrun, hW, (Ext.drew g get n w (w.drawn + 1)).trans hE, ?_⟩
  simp only [vr]
  refine ⟨⟨w.heap.size, 0, none⟩, cap, rfl, by show nid < max n (nid + 1); omega, by show (upd _ nid _ nid).firm = true; rw [upd_same]; rfl, by simp [G.put], Nat.le_refl _, hcap, (by simp), ?_⟩
  simp [G.put, hcs]

end
end Go.Ae

/- The abstract evaluator: append, whole. -/
namespace Go.Ae
variable {P : Program}
section
variable {g : G} {get : Nat → Blk} {n : Nat} {w : World}

theorem append_sound (h : WR g get n w) {nid : Nat} (hf : Fresh get n nid) {t u el : TypeId} (ht : und P t = .slice el) (hu : okU P u = true) (hint : ∀ k, und P u ≠ .int k) {hm : Bool} {s x : V} {s' x' : Value} (hs : vr g.I (g.at get n) s s') (hx : vr g.I (g.at get n) x x')
    {new : List V} {m : Nat} {rs : List Nat} (hsrc : sliceCells get x = some (new, m, rs)) (hone : V.ones new = true) (hnl : new.length = m * szOf P el) (hpos : m ≠ 0) {e : Eff} (he : appendV P hm get nid el s new m rs = some e) (ty : TypeId) :
    Run1 P (Builtin.append_ #[t, u] ty #[s', x']) g get n w nid e := by
  obtain ⟨ys, hn, hlen, hfirst⟩ := src_sound (P := P) h hx hsrc hnl
  unfold appendV at he
  simp only at he
  split at he
  · cases he
  · rename_i hz
    have hz : okZ P el = true := by simpa using hz
    cases s with
    | nils =>
      simp only [vr] at hs; subst hs
      simp only at he
      split at he
      · rename_i hroom
        obtain ⟨cap, c, hcap, ⟨rest, hcc, hrs⟩, hrun⟩ := append_grow ht hu hint hz (base := none) (sLen := 0) (sCap := 0) (ty := ty) (w := w) (old := #[]) (by omega) hlen (by omega) (by rw [Nat.zero_add]; exact hroom) (fun w1 _ => rfl) hfirst
        have hcc' : c = ([] : List Value).toArray ++ ys.toArray ++ rest := hcc
        split at he
        · rename_i hp
          rw [Bool.and_eq_true] at hp
          obtain rfl := Option.some.inj he
          exact grown_val h hf (cs := []) (xs := []) (by simp [vrl]) hn hp.1 (by simp) hnl hcc' hrs hcap el hrun
        · obtain rfl := Option.some.inj he
          exact grown_row h hf (cs := []) (xs := []) (by simp [vrl]) hn (by simp) hnl hcc' hrs hcap el hrun
      · cases he
    | vs cs len sz own =>
      simp only [vr] at hs
      obtain ⟨b, o, cap0, rfl, hlc, hcl, hra, hown⟩ := hs
      simp only at he
      split at he
      · rename_i hc
        obtain ⟨rfl, hroom⟩ := hc
        obtain ⟨xs, hxv, hxh⟩ := holds_imm h.imm hra
        have hxl : xs.length = len * szOf P el := by rw [vrl_len hxv]; exact hcl
        have hold : ∀ w1 : World, w1.heap = w.heap → (Builtin.firstCells (szOf P el) len (.slice (some ⟨b, o, none⟩) len cap0)).run P w1 = .ok xs.toArray w1 := fun w1 hw1 => by
          have hh : Holds w1 b o xs := fun i y hy => by
            have := hxh i y hy
            unfold World.cell? at this ⊢
            rw [hw1]; exact this
          unfold Builtin.firstCells
          simp only
          rw [← hxl]
          exact hh.load
        have hxv' := vrl_mono (Imm.le_refl _) (At.bot_le (g.at get n)) hxv
        cases own with
        | lock => cases he
        | tight =>
          have hct : cap0 = len := hown
          obtain ⟨cap, c, hcap, ⟨rest, hcc, hrs⟩, hrun⟩ := append_grow ht hu hint hz (base := some ⟨b, o, none⟩) (sLen := len) (sCap := cap0) (ty := ty) (w := w) (by omega) hlen (by omega) hroom hold hfirst
          simp only at he
          split at he
          · rename_i hp
            rw [Bool.and_eq_true] at hp
            obtain rfl := Option.some.inj he
            exact grown_val h hf hxv hn hp.1 hcl hnl hcc hrs hcap el hrun
          · obtain rfl := Option.some.inj he
            exact grown_row h hf hxv' hn hcl hnl hcc hrs hcap el hrun
        | tok r e' =>
          have hown' : (g.at get n).tok r e' b (o + len * szOf P el) (o + cap0 * szOf P el) := hown
          obtain ⟨hr, hnr, htk⟩ := hown'
          simp only at he
          cases hg : get r with
          | tok hw =>
            simp only [hg] at he
            split at he
            · rename_i hwe
              subst hwe
              obtain ⟨_, htk⟩ := htk hw hg
              obtain ⟨hb, hk, hce⟩ := htk rfl
              by_cases hin : len + m ≤ cap0
              · have hrun : ∀ w', (storeCells ⟨b, o + len * szOf P el, none⟩ ys).run P w = .ok () w' → (Builtin.append_ #[t, u] ty #[.slice (some ⟨b, o, none⟩) len cap0, x']).run P w = .ok (.slice (some ⟨b, o, none⟩) (len + m) cap0) w' := fun w' hst =>
                  append_in ht hu hint hz hlen hin (hfirst w rfl) (by simp only [addr_add]; exact hst)
                split at he
                · rename_i hp
                  rw [Bool.and_eq_true] at hp
                  obtain rfl := Option.some.inj he
                  exact tok_in h hr hg hra hb hk hce hcl hn hp.1 hone hnl (by omega) hin hrun
                · obtain rfl := Option.some.inj he
                  have hbl := h.blk r hr
                  rw [hg] at hbl
                  obtain ⟨cc, el', h1, h2, h3, h5⟩ := hbl
                  subst hb
                  refine row_in h hf hr (by rw [hg]; rfl) h1 h2 (L := g.base r) (k := len * szOf P el) h5 (by omega) hxv' ?_ hn hone hcl hnl (by omega) hce hin hrun
                  apply List.ext_getElem?
                  intro i
                  rw [List.getElem?_take]
                  by_cases hi : i < xs.length
                  · rw [if_pos hi, List.getElem?_drop]
                    have hxi := hxh i xs[i] (List.getElem?_eq_getElem hi)
                    unfold World.cell? at hxi
                    rw [h1] at hxi
                    simp only [Option.isSome_none, Bool.false_eq_true, if_false] at hxi
                    rw [List.getElem?_eq_getElem hi, Array.getElem?_toList, hxi]
                  · rw [if_neg hi, List.getElem?_eq_none (by omega)]
              · obtain ⟨cap, c, hcap, ⟨rest, hcc, hrs⟩, hrun⟩ := append_grow ht hu hint hz (base := some ⟨b, o, none⟩) (sLen := len) (sCap := cap0) (ty := ty) (w := w) (by omega) hlen (by omega) hroom hold hfirst
                split at he
                · rename_i hp
                  rw [Bool.and_eq_true] at hp
                  obtain rfl := Option.some.inj he
                  exact tok_grow h hr hg hxv hn hp.1 hcl hnl (by omega) hcc hrs hcap el hrun
                · obtain rfl := Option.some.inj he
                  exact row_grow h hf hr (by rw [hg]; rfl) (fun _ _ => by rw [hg]; simp) hxv' hn hcl hnl _ hcc hrs hcap el hrun
            · cases he
          | _ => simp [hg] at he
      · cases he
    | hs r off len cap sz ex =>
      simp only [vr] at hs
      obtain ⟨a, c0, rfl, hr, hfm, rfl, hlc, hcc0, hex, hts⟩ := hs
      simp only at he
      split at he
      · rename_i hc
        obtain ⟨rfl, hroom⟩ := hc
        cases hg : get r with
        | row k cs =>
          simp only [hg] at he
          split at he
          · rename_i hle
            obtain ⟨cc, el', xs, h1, h2, h3, h4, h5, h6, h7⟩ := row_vals h hr hg
            have hsub : vrl g.I (g.at get n) ((cs.drop off).take (len * szOf P el)) ((xs.drop off).take (len * szOf P el)) := vrl_take (vrl_drop h4 off) _
            have hsl : ((cs.drop off).take (len * szOf P el)).length = len * szOf P el := by rw [List.length_take, List.length_drop]; omega
            have hold : ∀ w1 : World, w1.heap = w.heap → (Builtin.firstCells (szOf P el) len (.slice (some ⟨g.mu r, g.base r + off, none⟩) len c0)).run P w1 = .ok ((xs.drop off).take (len * szOf P el)).toArray w1 := fun w1 hw1 => by
              have hh : Holds w1 (g.mu r) (g.base r + off) ((xs.drop off).take (len * szOf P el)) := fun i y hy => by
                have := ((h6.drop off).take (len * szOf P el)) i y hy
                unfold World.cell? at this ⊢
                rw [hw1]; exact this
              unfold Builtin.firstCells
              simp only
              have e1 : ((xs.drop off).take (len * szOf P el)).length = len * szOf P el := by rw [vrl_len hsub]; exact hsl
              have := hh.load (P := P)
              rw [e1] at this
              exact this
            split at he
            · rename_i hcap
              split at he
              · rename_i hk
                cases hsp : splice cs new (off + len * szOf P el) with
                | none => simp [hsp] at he
                | some cs' =>
                  simp only [hsp] at he
                  obtain rfl := Option.some.inj he
                  obtain ⟨w', hst, hW, hE⟩ := write_seg (P := P) h hr hg hk hn hone hsp
                  refine ⟨_, w', g, append_in ht hu hint hz hlen (by omega) (hfirst w rfl) (by simp only [addr_add]; rw [Nat.add_assoc]; exact hst), hW, hE, ?_⟩
                  simp only [vr]
                  refine ⟨_, c0, rfl, hr, by show (upd get r _ r).firm = true; rw [upd_same]; rfl, rfl, hcap, hcc0, hex, hts⟩
              · cases he
            · rename_i hcap
              split at he
              · rename_i hexx
                obtain rfl := Option.some.inj he
                have := hex hexx
                obtain ⟨cap', c, hcap', ⟨rest, hcc, hrs⟩, hrun⟩ := append_grow ht hu hint hz (base := some ⟨g.mu r, g.base r + off, none⟩) (sLen := len) (sCap := c0) (ty := ty) (w := w) (by omega) hlen (by omega) hroom hold hfirst
                exact grown_row h hf hsub hn hsl hnl hcc hrs hcap' el hrun
              · split at he
                · rename_i hend
                  obtain ⟨hend, hkl⟩ := hend
                  obtain rfl := Option.some.inj he
                  have hall : (cs.drop off).take (len * szOf P el) = cs.drop off := List.take_of_length_le (by rw [List.length_drop]; omega)
                  have hallx : (xs.drop off).take (len * szOf P el) = xs.drop off := List.take_of_length_le (by rw [List.length_drop, vrl_len h4]; omega)
                  rw [hall, hallx] at hsub
                  rw [hall] at hsl
                  by_cases hin : len + m ≤ c0
                  · refine row_in h hf hr (by rw [hg]; rfl) h1 h2 (o := g.base r + off) (L := g.base r + k) (k := k - off) h7 (by omega) hsub ?_ hn hone hsl hnl ?_ hts hin (fun w' hst => append_in ht hu hint hz hlen hin (hfirst w rfl) (by simp only [addr_add]; exact hst))
                    · have hcl' : cc.toList.length = cc.size := Array.length_toList
                      subst h5
                      rw [List.drop_take, List.drop_drop, List.length_take, List.length_drop]
                      rw [Nat.min_eq_left (by omega)]
                    · omega
                  · obtain ⟨cap', c, hcap', ⟨rest, hcc, hrs⟩, hrun⟩ := append_grow ht hu hint hz (base := some ⟨g.mu r, g.base r + off, none⟩) (sLen := len) (sCap := c0) (ty := ty) (w := w) (by omega) hlen (by omega) hroom hold hfirst
                    rw [hallx] at hcc
                    exact row_grow h hf hr (by rw [hg]; rfl) (fun _ _ => by rw [hg]; simp) hsub hn hsl hnl _ hcc hrs hcap' el hrun
                · cases he
          · cases he
        | _ => simp [hg] at he
      · cases he
    | _ => cases he

end
end Go.Ae

/- The abstract evaluator: maps: keys, finding, storing. -/
namespace Go.Ae
variable {P : Program}

/-- Scalars of the machine's. -/
def vScalar : Value → Bool
  | .int _ _ | .string _ | .bool _ => true
  | _ => false

theorem scalar_fun {I J : Imm} {A B : At} {d : TypeDesc} {v : V} (h : scalarOk d v = true) {x y : Value} (hx : vr I A v x) (hy : vr J B v y) : x = y ∧ vScalar x = true := by
  unfold scalarOk at h
  split at h
  · simp only [vr] at hx hy; subst hx hy; exact ⟨rfl, rfl⟩
  · simp only [vr] at hx hy; subst hx hy; exact ⟨rfl, rfl⟩
  · simp only [vr] at hx hy; subst hx hy; exact ⟨rfl, rfl⟩
  · cases h

theorem byteArray_ext {a b : ByteArray} (h : a.data.toList = b.data.toList) : a = b := by
  cases a; cases b
  simp only at h
  congr
  exact Array.ext' h

theorem sameScalar_eq {a b : V} (h : sameScalar a b = true) : a = b ∧ ∃ d, scalarOk d a = true := by
  unfold sameScalar at h
  split at h
  · rw [Bool.and_eq_true, decide_eq_true_eq, decide_eq_true_eq] at h
    obtain ⟨rfl, rfl⟩ := h
    exact ⟨rfl, .int .i64, rfl⟩
  · rw [decide_eq_true_eq] at h
    exact ⟨by rw [byteArray_ext h], .string, rfl⟩
  · rw [beq_iff_eq] at h; subst h
    exact ⟨rfl, .bool, rfl⟩
  · cases h

theorem sameScalars_val {I J : Imm} {A B : At} : ∀ {as bs : List V} {xs ys : List Value}, sameScalars as bs = true → vrl I A as xs → vrl J B bs ys → xs = ys ∧ xs.all vScalar = true
  | [], [], xs, ys, _, hx, hy => by simp [vrl] at hx hy; simp [hx, hy]
  | [], _ :: _, _, _, h, _, _ => by cases h
  | _ :: _, [], _, _, h, _, _ => by cases h
  | a :: as, b :: bs, xs, ys, h, hx, hy => by
    simp only [sameScalars, Bool.and_eq_true] at h
    obtain ⟨rfl, d, hd⟩ := sameScalar_eq h.1
    simp only [vrl] at hx hy
    obtain ⟨x, xs, rfl, hx1, hx2⟩ := hx
    obtain ⟨y, ys, rfl, hy1, hy2⟩ := hy
    obtain ⟨rfl, hs⟩ := scalar_fun hd hx1 hy1
    obtain ⟨rfl, ht⟩ := sameScalars_val h.2 hx2 hy2
    exact ⟨rfl, by simp [hs, ht]⟩

theorem sameBits_scalar (n : Nat) {x : Value} (h : vScalar x = true) : Instr.sameBits n x x = true := by
  cases x <;> simp [vScalar] at h <;> cases n <;> simp [Instr.sameBits, beq_toListBytes]

theorem sameKey_bits {I J : Imm} {A B : At} {k k' : V} (h : sameKey k k' = true) {x y : Value} (hx : vr I A k x) (hy : vr J B k' y) : Instr.sameBits 10000 y x = true := by
  unfold sameKey at h
  split at h
  · simp only [vr] at hx hy
    obtain ⟨xs, rfl, hx⟩ := hx
    obtain ⟨ys, rfl, hy⟩ := hy
    obtain ⟨e, hs⟩ := sameScalars_val h hx hy
    have e' : xs = ys := Array.ext' e
    subst e'
    show (xs.size == xs.size && (xs.toList.zip xs.toList).all fun (p : Value × Value) => Instr.sameBits 9999 p.1 p.2) = true
    rw [Bool.and_eq_true]
    refine ⟨by simp, ?_⟩
    rw [List.all_eq_true] at hs ⊢
    intro p hp
    obtain ⟨a, b⟩ := p
    have := (List.of_mem_zip hp).1
    have hab : a = b := by
      rw [List.zip_eq_zipWith] at hp
      simp only [List.mem_iff_getElem?] at hp
      obtain ⟨i, hi⟩ := hp
      rw [List.getElem?_zipWith] at hi
      cases hx' : xs.toList[i]? with
      | none => rw [hx'] at hi; cases hi
      | some z => rw [hx'] at hi; simp at hi; exact hi.1.symm.trans hi.2
    subst hab
    exact sameBits_scalar _ (hs a this)
  · obtain ⟨rfl, d, hd⟩ := sameScalar_eq h
    obtain ⟨rfl, hs⟩ := scalar_fun hd hx hy
    exact sameBits_scalar _ hs

/-! ### A key that can be asked for -/
theorem checkKey_scalar {d : TypeDesc} {t : TypeId} {v : V} {x : Value} {I : Imm} {A : At} (ht : und P t = d) (h : scalarOk d v = true) (hx : vr I A v x) (empty : Bool) (m : Nat) (w : World) : (Instr.checkKey empty (m + 1) t x).run P w = .ok () w := by
  unfold scalarOk at h
  split at h
  · simp only [vr] at hx; subst hx
    simp only [Instr.checkKey, Sem.run_bind, run_und ht (by simp) w, Result.andThen]; rfl
  · simp only [vr] at hx; subst hx
    simp only [Instr.checkKey, Sem.run_bind, run_und ht (by simp) w, Result.andThen]; rfl
  · simp only [vr] at hx; subst hx
    simp only [Instr.checkKey, Sem.run_bind, run_und ht (by simp) w, Result.andThen]; rfl
  · cases h

theorem part_scalar {d : TypeDesc} {t : TypeId} {v : V} (ht : und P t = d) (h : scalarOk d v = true) {x : Value} {xs : Array Value} {i : Nat} (hi : xs[i]? = some x) (w : World) : (part t xs i).run P w = .ok x w := by
  have hu : okU P t = true := by
    unfold scalarOk at h
    split at h
    · exact okU_of_und ht (by simp)
    · exact okU_of_und ht (by simp)
    · exact okU_of_und ht (by simp)
    · cases h
  have ha : isAggT P t = false := by
    unfold isAggT
    rw [ht]
    unfold scalarOk at h
    split at h <;> first | rfl | cases h
  unfold part
  rw [Sem.run_bind, run_isAgg hu w]
  simp only [Result.andThen, ha, Bool.false_eq_true, if_false, hi, Sem.run_pure]

theorem checkFields {I : Imm} {A : At} (empty : Bool) (m : Nat) (w : World) (all : Array Value) : ∀ (fs : List Field) (i : Nat) (cs : List V) (xs : List Value), fieldsOk P fs i cs = true → vrl I A cs xs → all.toList.drop i = xs →
    (forIn (m := Sem) fs PUnit.unit fun f _ => (do
      if f.name ≠ "_" then Instr.checkKey empty (m + 1) f.type (← part f.type all f.offset)
      pure (ForInStep.yield PUnit.unit))).run P w = .ok PUnit.unit w
  | [], i, cs, xs, _, _, _ => by simp
  | f :: fs, i, cs, xs, h, hl, hd => by
    cases cs with
    | nil => simp [fieldsOk] at h
    | cons v cs =>
      simp only [fieldsOk, Bool.and_eq_true, decide_eq_true_eq] at h
      obtain ⟨⟨⟨h1, h2⟩, h3⟩, h4⟩ := h
      have h1 := Nat.eq_of_beq_eq_true h1
      simp only [vrl] at hl
      obtain ⟨x, xs, rfl, hv, hl⟩ := hl
      have hx : all[f.offset]? = some x := by
        have : all.toList[i]? = some x := by
          have := congrArg (fun l : List Value => l[0]?) hd
          simpa using this
        rw [h1]; simpa using this
      have hp := part_scalar rfl h3 hx w
      have hc := checkKey_scalar (P := P) rfl h3 hv empty m w
      rw [List.forIn_cons]
      simp only [Sem.run_bind, if_pos h2, hp, hc, Result.andThen, Sem.run_pure]
      exact checkFields empty m w all fs (i + 1) cs xs h4 hl (by rw [← List.drop_drop, hd]; rfl)

theorem checkKey_sound {I : Imm} {A : At} {t : TypeId} {v : V} {x : Value} (h : keyOk P t v = true) (hx : vr I A v x) (empty : Bool) (w : World) : (Instr.checkKey empty 10000 t x).run P w = .ok () w := by
  unfold keyOk at h
  split at h
  · rename_i fs cs hd
    simp only [vr] at hx
    obtain ⟨xs, rfl, hl⟩ := hx
    have := checkFields (P := P) empty 9998 w xs fs.toList 0 cs xs.toList h hl rfl
    rw [show (10000 : Nat) = 9998 + 1 + 1 from rfl]
    unfold Instr.checkKey
    simp only [Sem.run_bind, run_und hd (by simp) w, Result.andThen]
    rw [← Array.forIn_toList]
    rw [this]
    rfl
  · exact checkKey_scalar rfl h hx empty 9999 w

end Go.Ae

/- The abstract evaluator: maps. -/
namespace Go.Ae
variable {P : Program}

theorem entsR_get {I : Imm} {A : At} : ∀ {l : List (V × V)} {es : List MapEntry}, entsR I A l es → ∀ {i : Nat} {k v : V}, l[i]? = some (k, v) → ∃ e, es[i]? = some e ∧ vr I A k e.key ∧ vr I A v e.val
  | [], _, _, i, k, v, h => by simp at h
  | (k0, v0) :: l, _, ⟨e, es', he, h1, h2, h3⟩, i, k, v, h => by
    subst he
    cases i with
    | zero => simp at h; obtain ⟨rfl, rfl⟩ := h; exact ⟨e, rfl, h1, h2⟩
    | succ i => simp at h; simpa using entsR_get h3 h

theorem entsR_of_get {I : Imm} {A : At} : ∀ {l : List (V × V)} {es : List MapEntry}, es.length = l.length → (∀ (i : Nat) (k v : V), l[i]? = some (k, v) → ∃ e, es[i]? = some e ∧ vr I A k e.key ∧ vr I A v e.val) → entsR I A l es
  | [], es, hl, _ => by simp only [entsR]; simpa using hl
  | (k, v) :: l, es, hl, h => by
    cases es with
    | nil => simp at hl
    | cons e es =>
      obtain ⟨e', he, h1, h2⟩ := h 0 k v rfl
      simp at he; subst he
      exact ⟨e, es, rfl, h1, h2, entsR_of_get (by simpa using hl) (fun i k v hh => by simpa using h (i + 1) k v (by simpa using hh))⟩

theorem sameNow_sound {I : Imm} {A : At} {t : TypeId} {k x : V} {k' x' : Value} (hk : vr I A k k') (hx : vr I A x x') {b c : Bool} (h : eqV P 100 t k x = some b) (hs : Instr.sameNow (und P t) k' x' = some c) : c = b := by
  unfold Instr.sameNow at hs
  split at hs
  · rename_i hd
    obtain rfl := vr_int hk
    obtain rfl := vr_int hx
    simp only [eqV, hd] at h
    split at hs
    · rename_i hkk
      rw [if_pos hkk] at h
      exact (Option.some.inj hs).symm.trans (Option.some.inj h)
    · cases hs
  · rename_i hd
    obtain rfl := vr_string hk
    obtain rfl := vr_string hx
    simp only [eqV, hd] at h
    rw [← Option.some.inj hs, ← Option.some.inj h, beq_toListBytes, bytes_list, bytes_list]
  · rename_i hd
    have e1 : ∀ {v : V} {b : Bool}, vr I A v (.bool b) → v = .bool b := fun {v b} hv => by
      cases v <;> simp [vr] at hv ⊢; exact hv.symm
    obtain rfl := e1 hk
    obtain rfl := e1 hx
    simp only [eqV, hd] at h
    rw [← Option.some.inj hs, ← Option.some.inj h]
  · cases hs

/-- What was found. -/
def foundR (I : Imm) (A : At) : Option (Nat × V) → Option (Nat × Value) → Prop
  | none, none => True
  | some (i, v), some (j, x) => i = j ∧ vr I A v x
  | _, _ => False

theorem findNow_sound {I : Imm} {A : At} {t : TypeId} {k : V} {k' : Value} (hk : vr I A k k') : ∀ {es : List (V × V)} {ents : List MapEntry} {i : Nat} {r : Option (Nat × V)} {r' : Option (Nat × Value)}, entsR I A es ents → findV P t k es i = some r → Instr.findNow (und P t) k' ents i = some r' → foundR I A r r'
  | [], ents, i, r, r', he, h, h' => by
    simp [entsR] at he; subst he
    simp [findV] at h; subst h
    simp [Instr.findNow] at h'; subst h'
    trivial
  | (x, v) :: es, ents, i, r, r', ⟨e, es', he, h1, h2, h3⟩, h, h' => by
    subst he
    simp only [findV] at h
    simp only [Instr.findNow] at h'
    cases hq : eqV P 100 t k x with
    | none => simp [hq] at h
    | some b =>
      cases hs : Instr.sameNow (und P t) k' e.key with
      | none => simp [hs] at h'
      | some c =>
        obtain rfl := sameNow_sound hk h1 hq hs
        cases c with
        | true =>
          simp only [hq] at h
          simp only [hs] at h'
          obtain rfl := Option.some.inj h
          obtain rfl := Option.some.inj h'
          exact ⟨rfl, h2⟩
        | false =>
          simp only [hq] at h
          simp only [hs] at h'
          exact findNow_sound hk h3 h h'

theorem findAsking_sound {I : Imm} {A : At} {t : TypeId} {k : V} {k' : Value} (hk : vr I A k k') (w : World) : ∀ {es : List (V × V)} {ents : List MapEntry} {i : Nat} {r : Option (Nat × V)}, entsR I A es ents → findV P t k es i = some r → ∃ r', (Instr.findAsking t k' ents i).run P w = .ok r' w ∧ foundR I A r r'
  | [], ents, i, r, he, h => by
    simp [entsR] at he; subst he
    simp [findV] at h; subst h
    exact ⟨none, rfl, trivial⟩
  | (x, v) :: es, ents, i, r, ⟨e, es', he, h1, h2, h3⟩, h => by
    subst he
    simp only [findV] at h
    cases hq : eqV P 100 t k x with
    | none => simp [hq] at h
    | some b =>
      have hr := eqV_sound (P := P) 100 hk h1 hq Op.maxDepth (by decide) w
      unfold Instr.findAsking
      rw [Sem.run_bind]
      unfold Op.equal
      rw [hr]
      simp only [Result.andThen]
      cases b with
      | true =>
        simp only [hq] at h
        obtain rfl := Option.some.inj h
        exact ⟨some (i, e.val), rfl, rfl, h2⟩
      | false =>
        simp only [hq] at h
        simp only [Bool.false_eq_true, if_false]
        exact findAsking_sound hk w h3 h

theorem findKey_sound {I : Imm} {A : At} {t : TypeId} {k : V} {k' : Value} (hk : vr I A k k') (hok : okU P t = true) (w : World) {es : List (V × V)} {ents : List MapEntry} {r : Option (Nat × V)} (he : entsR I A es ents) (h : findV P t k es 0 = some r) : ∃ r', (Instr.findKey t k' ents).run P w = .ok r' w ∧ foundR I A r r' := by
  unfold Instr.findKey
  rw [Sem.run_bind, run_okU hok w]
  simp only [Result.andThen]
  cases hn : Instr.findNow (und P t) k' ents 0 with
  | some r' => exact ⟨r', rfl, findNow_sound hk he h hn⟩
  | none => exact findAsking_sound hk w he h

theorem okU_of_key {t : TypeId} {v : V} (h : keyOk P t v = true) : okU P t = true := by
  unfold keyOk at h
  split at h
  · rename_i hd; exact okU_of_und hd (by simp)
  · unfold scalarOk at h
    split at h
    · rename_i hd _; exact okU_of_und hd (by simp)
    · rename_i hd _; exact okU_of_und hd (by simp)
    · rename_i hd _; exact okU_of_und hd (by simp)
    · cases h

section
variable {g : G} {get : Nat → Blk} {n : Nat} {w : World}

/-- The entries of a map. -/
theorem map_ents (h : WR g get n w) {m : V} {x : Value} (hm : vr g.I (g.at get n) m x) {es : List (V × V)} {rs : List Nat} (ho : mapOf get m = some (es, rs)) :
    ∃ ents : Array MapEntry, ((x = .map none ∧ ents = #[]) ∨ ∃ r clock, x = .map (some r) ∧ w.heap[r]? = some (.map ents clock)) ∧ entsR g.I (g.at get n) es ents.toList := by
  unfold mapOf at ho
  cases m with
  | nilm =>
    simp only [vr] at hm; subst hm
    obtain ⟨rfl, _⟩ : [] = es ∧ _ := by simpa using ho
    exact ⟨#[], .inl ⟨rfl, rfl⟩, by simp [entsR]⟩
  | map r =>
    simp only [vr] at hm
    obtain ⟨b, rfl, hr, hfm, rfl⟩ := hm
    simp only at ho
    cases hg : get r with
    | map es' ver =>
      simp only [hg] at ho
      obtain ⟨rfl, _⟩ : es' = es ∧ _ := by simpa using ho
      have hb := h.blk r hr
      rw [hg] at hb
      obtain ⟨ents, clock, h1, h2, h3⟩ := hb
      exact ⟨ents, .inr ⟨g.mu r, clock, rfl, h1⟩, h2⟩
    | _ => simp [hg] at ho
  | _ => cases ho

theorem run_getObj {w : World} {r : Nat} {o : Obj} (h : w.heap[r]? = some o) (hc : ∀ c e f, o ≠ .cells c e f) : (getObj r).run P w = .ok o w := by
  unfold getObj
  cases o <;> first | exact absurd rfl (hc _ _ _) | simp only [Sem.run, h]
theorem run_setObj {w : World} {r : Nat} {o : Obj} (h : w.heap[r]? = some o) (hc : ∀ c e f, o ≠ .cells c e f) (o' : Obj) : (setObj r o').run P w = .ok () { w with heap := w.heap.setIfInBounds r o' } := by
  unfold setObj
  cases o <;> first | exact absurd rfl (hc _ _ _) | simp only [Sem.run, h]

theorem lookup_run {t kt el : TypeId} (hd : und P t = .map kt el) {m' k' : Value} {ents : Array MapEntry} (hents : (m' = .map none ∧ ents = #[]) ∨ ∃ r clock, m' = .map (some r) ∧ w.heap[r]? = some (.map ents clock)) (hck : (Instr.checkKey ents.isEmpty 10000 kt k').run P w = .ok () w)
    {r' : Option (Nat × Value)} (hfk : (Instr.findKey kt k' ents.toList).run P w = .ok r' w) {zx : Value} (hz : r' = none → (zeroValue el).run P w = .ok zx w) (ok : Bool) :
    (Instr.lookup t m' k' ok).run P w = .ok (if ok then .tuple #[(match r' with | some p => p.2 | none => zx), .bool r'.isSome] else (match r' with | some p => p.2 | none => zx)) w := by
  unfold Instr.lookup
  rw [Sem.run_bind, run_und hd (by simp) w]
  simp only [Result.andThen]
  rcases hents with ⟨rfl, rfl⟩ | ⟨r, clock, rfl, hh⟩
  · simp only [Sem.run_bind, Sem.run_pure, Result.andThen, hck, hfk]
    cases r' with
    | none => simp only [Sem.run_bind, hz rfl, Result.andThen, Sem.run_pure]; rfl
    | some p => rfl
  · simp only [Sem.run_bind, run_getObj hh (by simp), Sem.run_pure, Result.andThen, hck, hfk]
    cases r' with
    | none => simp only [Sem.run_bind, hz rfl, Result.andThen, Sem.run_pure]; rfl
    | some p => rfl

theorem lookup_sound (h : WR g get n w) {t : TypeId} {m k : V} {m' k' : Value} (hm : vr g.I (g.at get n) m m') (hk : vr g.I (g.at get n) k k') {ok : Bool} {e : Eff} (he : lookup P get t m k ok = some e) :
    e.wr = [] ∧ e.nw = [] ∧ ∃ y, (Instr.lookup t m' k' ok).run P w = .ok y w ∧ vr g.I (g.at get n) e.v y := by
  unfold lookup at he
  cases hd : und P t with
  | map kt el =>
    cases ho : mapOf get m with
    | none => simp [hd, ho] at he
    | some p =>
      obtain ⟨es, rs⟩ := p
      simp only [hd, ho] at he
      split at he
      · rename_i hkey
        obtain ⟨ents, hents, hR⟩ := map_ents h hm ho
        cases hfv : findV P kt k es 0 with
        | none => simp [hfv] at he
        | some r =>
          obtain ⟨r', hr', hfr⟩ := findKey_sound (P := P) hk (okU_of_key hkey) w hR hfv
          have hck := checkKey_sound (P := P) hkey hk ents.isEmpty w
          cases r with
          | none =>
            simp only [hfv] at he
            cases r' with
            | some q => exact hfr.elim
            | none =>
              cases hz : zeroOf P el with
              | none => simp [hz] at he
              | some z =>
                simp only [hz] at he
                obtain rfl := Option.some.inj he
                obtain ⟨zx, hzx, hzv⟩ := run_zero hz w
                refine ⟨rfl, rfl, _, lookup_run hd hents hck hr' (zx := zx) (fun _ => hzx) ok, ?_⟩
                · cases ok with
                  | false => simp only [Bool.false_eq_true, if_false]; exact hzv _ _
                  | true =>
                    simp only [if_true, vr]
                    exact ⟨_, rfl, by simp only [vrl]; exact ⟨zx, [.bool false], rfl, hzv _ _, .bool false, [], rfl, by simp [vr], rfl⟩⟩
          | some p =>
            obtain ⟨i, v⟩ := p
            simp only [hfv] at he
            obtain rfl := Option.some.inj he
            cases r' with
            | none => exact hfr.elim
            | some q =>
              obtain ⟨j, x⟩ := q
              obtain ⟨_, hv⟩ := hfr
              refine ⟨rfl, rfl, _, lookup_run hd hents hck hr' (zx := undef) (fun h => by cases h) ok, ?_⟩
              · cases ok with
                | false => simp only [Bool.false_eq_true, if_false]; exact hv
                | true =>
                  simp only [if_true, vr]
                  exact ⟨_, rfl, by simp only [vrl]; exact ⟨x, [.bool true], rfl, hv, .bool true, [], rfl, by simp [vr], rfl⟩⟩
      · cases he
  | _ => simp [hd] at he

end
end Go.Ae

/- The abstract evaluator: storing into maps, going through them. -/
namespace Go.Ae
variable {P : Program}
section
variable {g : G} {get : Nat → Blk} {n : Nat} {w : World}

theorem no_imm_obj (h : WR g get n w) {b : Nat} {ob : Obj} (hb : w.heap[b]? = some ob) (hc : ∀ c e f, ob ≠ .cells c e f) (o : Nat) : g.I b o = none := by
  cases hx : g.I b o with
  | none => rfl
  | some x =>
    have := h.imm b o x hx
    unfold World.cell? at this
    rw [hb] at this
    cases ob <;> first | cases this | exact absurd rfl (hc _ _ _)

/-- A block that is no row is otherwise. -/
theorem WR.set_obj (h : WR g get n w) {r : Nat} (hr : r < n) (hl : (get r).live = true) (hfm : (get r).firm = true) {ob ob' : Obj} (hb : w.heap[g.mu r]? = some ob) (hc : ∀ c e f, ob ≠ .cells c e f) (hc' : ∀ c e f, ob' ≠ .cells c e f) {b : Blk} (hbf : b.firm = true)
    (hiter : ∀ j m ver left cur, j < n → j ≠ r → get j = .iter (some m) ver left cur → m = r → ∀ es ver', b = .map es ver' → ver < ver')
    (hblk : Ext g get n w g (upd get r b) n { w with heap := w.heap.setIfInBounds (g.mu r) ob' } → blkR g (upd get r b) n { w with heap := w.heap.setIfInBounds (g.mu r) ob' } r b)
    (hmap : ∀ es ver, get r = .map es ver → ∃ es' ver', b = .map es' ver' ∧ ver < ver') :
    WR g (upd get r b) n { w with heap := w.heap.setIfInBounds (g.mu r) ob' } ∧ Ext g get n w g (upd get r b) n { w with heap := w.heap.setIfInBounds (g.mu r) ob' } := by
  refine WR.go (fun j => j = r) (fun x => x = g.mu r) h (Nat.le_refl _) ?_ ?_ ?_ ?_ ?_ (Imm.le_refl _) (fun _ _ _ hx => .inl hx) ?_ ?_ ?_ ?_ ?_ ?_ ?_ rfl rfl rfl ?_ ?_
  · intro j _ hj; exact ⟨upd_ne _ _ hj, rfl, rfl, rfl⟩
  · intro j h1 h2; omega
  · simp
  · intro x _ hd; simp only; rw [Array.getElem?_setIfInBounds_ne (Ne.symm hd)]
  · intro x _ hd; exact ⟨r, hr, rfl, hl, hd.symm⟩
  · intro x o v hx hd
    have hx : g.I x o = some v := hx
    rcases hd with hd | rfl
    · rw [no_imm_new h hd] at hx; cases hx
    · rw [no_imm_obj h hb hc] at hx; cases hx
  · intro j _ hj _; subst hj; exact ⟨by rw [upd_same]; exact hbf, rfl, rfl, rfl⟩
  · intro j _ hj _; subst hj; rw [upd_same]; rintro rfl; cases hbf
  · intro j _ hj hw1 hw2 e1; subst hj; rw [e1] at hfm; cases hfm
  · intro j _ hjr _; subst hjr; exact .inr ⟨j, hr, rfl, hl, rfl⟩
  · intro j j' _ _ hj hj' _ _ _; rw [hj, hj']
  · intro j m ver left cur hj hjr hg hm es ver' he
    subst hm
    rw [upd_same] at he
    exact hiter j m ver left cur hj hjr hg rfl es ver' he
  · intro e j _ hj; subst hj; rw [upd_same]; exact hblk e
  · intro j _ hj es ver e1
    subst hj
    rw [upd_same]
    obtain ⟨es', ver', h1, h2⟩ := hmap es ver e1
    exact ⟨es', ver', h1, .inl h2⟩

theorem iter_ver (h : WR g get n w) {j m ver : Nat} {left : List (V × V)} {cur : Option (V × V)} (hj : j < n) (hg : get j = .iter (some m) ver left cur) {es : List (V × V)} {ver' : Nat} (hm : get m = .map es ver') : ver ≤ ver' := by
  have hb := h.blk j hj
  rw [hg] at hb
  obtain ⟨_, _, _, _, _, _, _, h5, _⟩ := hb
  exact h5 es ver' hm

theorem mapUpdate_sound (h : WR g get n w) {nid : Nat} {o : Oper} {a : Act} {t : TypeId} {m k x : V} {m' k' x' : Value} (hrun : execOp a.eval o = (do Instr.mapUpdate t m' k' x'; pure .skip)) (hm : vr g.I (g.at get n) m m') (hk : vr g.I (g.at get n) k k') (hx : vr g.I (g.at get n) x x')
    {e : Eff} (he : mapUpdate P get t m k x = some e) : Comes1 P o a g get n w nid e := by
  unfold mapUpdate at he
  cases hd : und P t with
  | map kt el =>
    cases m with
    | map r =>
      simp only [hd] at he
      simp only [vr] at hm
      obtain ⟨b, rfl, hr, hfm, rfl⟩ := hm
      split at he
      · rename_i hkey
        cases hg : get r with
        | map es ver =>
          simp only [hg] at he
          have hb := h.blk r hr
          rw [hg] at hb
          obtain ⟨ents, clock, h1, h2, h3, h4⟩ := hb
          have hck := checkKey_sound (P := P) hkey hk false w
          cases hfv : findV P kt k es 0 with
          | none => simp [hfv] at he
          | some r0 =>
            obtain ⟨r', hr', hfr⟩ := findKey_sound (P := P) hk (okU_of_key hkey) w h2 hfv
            cases r0 with
            | none =>
              simp only [hfv] at he
              obtain rfl := Option.some.inj he
              cases r' with
              | some q => exact hfr.elim
              | none =>
                obtain ⟨hW, hE⟩ := h.set_obj hr (by rw [hg]; rfl) hfm h1 (by simp) (ob' := .map (ents.push { key := k', val := x', born := clock }) (clock + 1)) (by simp) (b := .map (es ++ [(k, x)]) (ver + 1)) rfl
                  (fun j m ver' left cur hj hjr hgj hm es' ver'' he' => by subst hm; cases he'; have := iter_ver h hj hgj hg; omega)
                  (fun e => by
                    refine ⟨ents.push { key := k', val := x', born := clock }, clock + 1, ?_, ?_, ?_, ?_⟩
                    · simp [heap_lt h1]
                    · refine entsR_of_get (by simp [entsR_len h2]) fun i kk vv hi => ?_
                      rw [List.getElem?_append] at hi
                      rw [Array.toList_push, List.getElem?_append, entsR_len h2]
                      split at hi
                      · rename_i hlt
                        obtain ⟨en, q1, q2, q3⟩ := entsR_get h2 hi
                        exact ⟨en, by rw [if_pos hlt]; exact q1, e.vr q2, e.vr q3⟩
                      · rename_i hge
                        rw [if_neg hge]
                        cases hii : i - es.length with
                        | zero =>
                          rw [hii] at hi
                          simp at hi
                          obtain ⟨rfl, rfl⟩ := hi
                          exact ⟨_, rfl, e.vr hk, e.vr hx⟩
                        | succ q => rw [hii] at hi; simp at hi
                    · rw [Array.toList_push, List.map_append, List.nodup_append]
                      refine ⟨h3, by simp, ?_⟩
                      intro p hp q hq
                      simp at hq
                      obtain ⟨en, hen, rfl⟩ := List.mem_map.1 hp
                      have := h4 en hen
                      omega
                    · intro en hen
                      rw [Array.toList_push, List.mem_append] at hen
                      rcases hen with hen | hen
                      · have := h4 en hen; omega
                      · simp at hen; subst hen; simp)
                  (fun es' ver' he' => by rw [hg] at he'; cases he'; exact ⟨_, _, rfl, Nat.lt_succ_self _⟩)
                refine ⟨undef, _, g, .inr ⟨run_u hrun ?_, rfl⟩, hW, hE, vr_undef⟩
                unfold Instr.mapUpdate
                rw [Sem.run_bind, run_und hd (by simp) w]
                simp only [Result.andThen, Sem.run_bind, run_getObj h1 (by simp), hck, hr', run_setObj h1 (by simp)]
            | some p =>
              obtain ⟨i, v0⟩ := p
              simp only [hfv] at he
              cases hi : es[i]? with
              | none => simp [hi] at he
              | some kv =>
                obtain ⟨k0, v1⟩ := kv
                simp only [hi] at he
                split at he
                · rename_i hsame
                  obtain rfl := Option.some.inj he
                  cases r' with
                  | none => exact hfr.elim
                  | some q =>
                    obtain ⟨j0, x0⟩ := q
                    obtain ⟨rfl, _⟩ := hfr
                    obtain ⟨en0, q1, q2, q3⟩ := entsR_get h2 hi
                    have hen0 : ents[i]? = some en0 := by simpa using q1
                    have hbits := sameKey_bits hsame hk q2
                    obtain ⟨hW, hE⟩ := h.set_obj hr (by rw [hg]; rfl) hfm h1 (by simp) (ob' := .map (ents.modify i fun e => { e with key := k', val := x' }) clock) (by simp) (b := .map (es.set i (k, x)) (ver + 1)) rfl
                      (fun j m ver' left cur hj hjr hgj hm es' ver'' he' => by subst hm; cases he'; have := iter_ver h hj hgj hg; omega)
                      (fun e => by
                        have hborn : (ents.modify i fun e => { e with key := k', val := x' }).toList.map (·.born) = ents.toList.map (·.born) := by
                          apply List.ext_getElem?
                          intro j
                          simp only [List.getElem?_map, Array.getElem?_toList, Array.getElem?_modify]
                          split
                          · cases ents[j]? <;> rfl
                          · rfl
                        refine ⟨ents.modify i fun e => { e with key := k', val := x' }, clock, ?_, ?_, ?_, ?_⟩
                        · simp [heap_lt h1]
                        · refine entsR_of_get (by simp [← entsR_len h2]) fun j kk vv hj => ?_
                          rw [List.getElem?_set] at hj
                          rw [Array.getElem?_toList, Array.getElem?_modify]
                          split at hj
                          · rename_i hij
                            subst hij
                            rw [if_pos rfl]
                            split at hj
                            · simp at hj
                              obtain ⟨rfl, rfl⟩ := hj
                              exact ⟨_, by rw [hen0]; rfl, e.vr hk, e.vr hx⟩
                            · cases hj
                          · rename_i hij
                            rw [if_neg hij]
                            obtain ⟨en, p1, p2, p3⟩ := entsR_get h2 hj
                            exact ⟨en, by simpa using p1, e.vr p2, e.vr p3⟩
                        · rw [hborn]; exact h3
                        · intro en hen
                          have hmem : en.born ∈ ents.toList.map (·.born) := by rw [← hborn]; exact List.mem_map_of_mem hen
                          obtain ⟨en', hen', e2⟩ := List.mem_map.1 hmem
                          rw [← e2]; exact h4 en' hen')
                      (fun es' ver' he' => by rw [hg] at he'; cases he'; exact ⟨_, _, rfl, Nat.lt_succ_self _⟩)
                    refine ⟨undef, _, g, .inr ⟨run_u hrun ?_, rfl⟩, hW, hE, vr_undef⟩
                    unfold Instr.mapUpdate
                    rw [Sem.run_bind, run_und hd (by simp) w]
                    simp only [Result.andThen, Sem.run_bind, run_getObj h1 (by simp), hck, hr', hen0, Option.map_some, Option.getD_some]
                    unfold Instr.keyThatStays
                    simp only [hbits, if_true, Sem.run_pure, run_setObj h1 (by simp)]
                · cases he
        | _ => simp [hg] at he
      · cases he
    | _ => simp [hd] at he
  | _ => simp [hd] at he

theorem range_sound (h : WR g get n w) {nid : Nat} (hf : Fresh get n nid) {o : Oper} {a : Act} {t : TypeId} {y : Operand} (ho : o.op = .range t y) {kt el : TypeId} (hd : und P t = .map kt el) {x : V} (hx : vr g.I (g.at get n) x (a.eval y)) {e : Eff} (he : xRange get nid x = some e) :
    Comes1 P o a g get n w nid e := by
  have hex : execOp a.eval o = (do pure (.value (← Instr.range t (a.eval y)))) := by unfold execOp; rw [ho]
  unfold xRange at he
  cases x with
  | nilm =>
    simp only at he
    obtain rfl := Option.some.inj he
    simp only [vr] at hx
    obtain ⟨hW, hE⟩ := h.new hf (.mapIter none 0 #[] 0) (.iter none 0 [] none) 0 0 fun e => ⟨if_pos rfl, by rw [show (g.put nid w.heap.size 0 0).mu nid = w.heap.size from if_pos rfl]; exact alloc_new _ _⟩
    refine ⟨.pointer (some ⟨w.heap.size, 0, none⟩), _, _, .inl (run_v hex ?_), hW, hE, ?_⟩
    · unfold Instr.range newObj
      rw [Sem.run_bind, run_und hd (by simp) w, hx]
      simp only [Result.andThen, Sem.run_bind, Sem.run_pure]
      rfl
    · simp only [vr]; exact ⟨_, rfl, at_new_ptr _ _ _ rfl⟩
  | map m =>
    simp only [vr] at hx
    obtain ⟨b, hxe, hr, hfm, rfl⟩ := hx
    simp only at he
    cases hg : get m with
    | map es ver =>
      simp only [hg] at he
      obtain rfl := Option.some.inj he
      have hb := h.blk m hr
      rw [hg] at hb
      obtain ⟨ents, clock, h1, h2, h3, h4⟩ := hb
      have hmn : m ≠ nid := fresh_ne hf hr (by rw [hg]; rfl)
      obtain ⟨hW, hE⟩ := h.new hf (.mapIter (some (g.mu m)) clock #[] clock) (.iter (some m) ver es none) 0 0 fun e => by
        refine ⟨by omega, by rw [upd_ne _ _ hmn]; exact hfm, if_pos rfl, clock, #[], clock, ?_, fun es' ver' hq => ?_, fun es' hq => ?_⟩
        · rw [show (g.put nid w.heap.size 0 0).mu nid = w.heap.size from if_pos rfl, show (g.put nid w.heap.size 0 0).mu m = g.mu m from if_neg hmn]; exact alloc_new _ _
        · rw [upd_ne _ _ hmn, hg] at hq; cases hq; exact Nat.le_refl _
        · refine ⟨ents, ?_, rfl, ?_, fun k v hc => by cases hc⟩
          · rw [show (g.put nid w.heap.size 0 0).mu m = g.mu m from if_neg hmn, alloc_old _ _ (heap_lt h1)]; exact h1
          · have : (ents.toList.filter fun e => !(#[] : Array Nat).contains e.born) = ents.toList := by
              apply List.filter_eq_self.2; intro x _; simp
            rw [this]
            exact entsR_mono e.I_le e.at_le h2
      refine ⟨.pointer (some ⟨w.heap.size, 0, none⟩), _, _, .inl (run_v hex ?_), hW, hE, ?_⟩
      · unfold Instr.range newObj
        rw [Sem.run_bind, run_und hd (by simp) w, hxe]
        simp only [Result.andThen, Sem.run_bind, run_getObj h1 (by simp), Sem.run_pure]
        rfl
      · simp only [vr]; exact ⟨_, rfl, at_new_ptr _ _ _ rfl⟩
    | _ => simp [hg] at he
  | _ => cases he

theorem entry_sound (h : WR g get n w) {nid : Nat} {o : Oper} {a : Act} {y : Operand} (ho : o.op = .entry y) {x : V} (hx : vr g.I (g.at get n) x (a.eval y)) {e : Eff} (he : xEntry get x = some e) : Comes1 P o a g get n w nid e := by
  have hex : execOp a.eval o = (do pure (.value (← Instr.entry (a.eval y)))) := by unfold execOp; rw [ho]
  unfold xEntry at he
  split at he
  · rename_i r
    simp only [vr] at hx
    obtain ⟨ad, hxe, hr, hfm, rfl⟩ := hx
    split at he
    · rename_i m ver left k v hg
      split at he
      · rename_i es ver' hgm
        split at he
        · rename_i hver
          subst hver
          obtain rfl := Option.some.inj he
          have hb := h.blk r hr
          rw [hg] at hb
          obtain ⟨h1, h2, h3, since, seen, last, h4, h5, h6⟩ := hb
          obtain ⟨ents, k1, k2, k3, k4⟩ := h6 es hgm
          obtain ⟨stamp, en, q1, q2, q3, q4⟩ := k4 k v rfl
          refine comes_same h (run_v hex ?_) (x := .tuple #[en.key, en.val]) ?_
          · unfold Instr.entry
            rw [hxe, h3]
            simp only [Sem.run_bind, Nat.add_zero, run_getObj h4 (by simp), Result.andThen, q1, run_getObj k1 (by simp), k2, bne_self_eq_false, Bool.false_eq_true, if_false, q2, Sem.run_pure]
          · simp only [vr]
            exact ⟨_, rfl, by simp only [vrl]; exact ⟨en.key, [en.val], rfl, q3, en.val, [], rfl, q4, rfl⟩⟩
        · cases he
      · cases he
    · cases he
  · cases he

end
end Go.Ae

/- The abstract evaluator: one operation that is no call of a function. -/
namespace Go.Ae
variable {P : Program}

theorem exec_builtin {o : Oper} {a : Act} {c : Call} {b : Builtin} (ho : o.op = .call c) (hb : c.callee = .builtin b) (w : World) : ∃ consts, (execOp a.eval o).run P w = (builtin b c.argTypes o.type consts (c.args.map a.eval)).run P w := by
  refine ⟨c.args.map fun | .const _ => true | _ => false, ?_⟩
  unfold execOp
  rw [ho]
  simp only [Sem.run_bind]
  unfold resolve
  rw [hb]
  rfl

theorem arr_of_list {α : Type} {a : Array α} {l : List α} (h : a.toList = l) : a = l.toArray := by rw [← h]

theorem run_nilAhead {t : TypeId} {name : String} {f : FuncId} (h : methodOf P t name = some f) (v : Value) (w : World) : (nilAhead (P.types.size + Made.depth) t v name).run P w = .ok (some false) w := by
  have hd : P.types.size + Made.depth = (P.types.size + (Made.depth - 1)) + 1 := by
    have : 0 < Made.depth := by decide
    omega
  unfold methodOf at h
  cases hi : P.info? t with
  | none => simp [hi] at h
  | some i =>
    simp only [hi, Option.bind_some] at h
    cases hm : i.methods.toList.find? (·.name == name) with
    | none => simp [hm] at h
    | some m =>
      simp only [hm] at h
      split at h
      · rename_i hp hfn hund
        have hm' : i.methods.find? (·.name == name) = some m := by
          rw [← Array.find?_toList]; exact hm
        rw [hd]
        unfold nilAhead
        simp only [Sem.run_bind, typeInfo, program, Sem.run, hi, Result.andThen, Sem.run_pure, hm', hp, followBlind, hfn]
      · cases h

section
variable {g : G} {get : Nat → Blk} {n : Nat} {w : World}

theorem comes_val {o : Oper} {a : Act} {nid : Nat} (h : WR g get n w) {s : Sem Value} (hex : execOp a.eval o = (do pure (.value (← s)))) {v : V} {rs : List Nat} {p : Bool} (hr : ∃ y, s.run P w = .ok y w ∧ vr g.I (g.at get n) v y) : Comes1 P o a g get n w nid { v, rd := rs, pan := p } := by
  obtain ⟨y, h1, h2⟩ := hr
  exact comes_same h (run_v hex h1) h2

theorem optR_rdo {regs : T V} {a : Act} (hR : RR g.I (g.at get n) regs a.tmps) {x : Option Operand} {v : Option V} (h : rdo regs x = some v) : optR g.I (g.at get n) v (x.map a.eval) := by
  unfold rdo at h
  cases x with
  | none => simp at h; subst h; trivial
  | some x =>
    cases hr : rd regs x with
    | none => simp [hr] at h
    | some u => simp [hr] at h; subst h; exact rd_vr hR hr

theorem nilCheck_sound (h : WR g get n w) {nid : Nat} {o : Oper} {a : Act} {y : Operand} (ho : o.op = .nilCheck y) {x : V} (hx : vr g.I (g.at get n) x (a.eval y)) {e : Eff} (he : xNilCheck P x = some e) : Comes1 P o a g get n w nid e := by
  unfold xNilCheck at he
  have hv : ∀ {v : V}, vr g.I (g.at get n) v (a.eval y) → (execOp a.eval o).run P w = .ok (.value (a.eval y)) w → Comes1 P o a g get n w nid { v } := fun hv hr => comes_same h hr hv
  split at he
  · obtain rfl := Option.some.inj he
    refine hv hx ?_
    simp only [vr] at hx
    obtain ⟨ad, hxe, _⟩ := hx
    unfold execOp
    rw [ho]
    simp only [hxe, Sem.run_pure]
  · obtain rfl := Option.some.inj he
    refine hv hx ?_
    simp only [vr] at hx
    obtain ⟨b, o', hxe, _⟩ := hx
    unfold execOp
    rw [ho]
    simp only [hxe, Sem.run_pure]
  · obtain rfl := Option.some.inj he
    refine hv hx ?_
    simp only [vr] at hx
    obtain ⟨f', a', c', hxe, hf, _⟩ := hx
    have : f' = .func _ := hf
    subst this
    unfold execOp
    rw [ho]
    simp only [hxe, Sem.run_pure]
  · rename_i name t x0 a0 b0
    cases hm : methodOf P t name with
    | none => simp [hm] at he
    | some f =>
      simp only [hm] at he
      obtain rfl := Option.some.inj he
      refine hv hx ?_
      simp only [vr] at hx
      obtain ⟨f', a', c', hxe, hf, ha, _⟩ := hx
      have : f' = .method name := hf
      subst this
      simp only [vrl, vr] at ha
      obtain ⟨z, zs, hz, ⟨u, rfl, _⟩, _⟩ := ha
      have h0 : a'[0]? = some (.iface t u) := by rw [← Array.getElem?_toList, hz]; rfl
      unfold execOp
      rw [ho]
      simp only [hxe, h0, Sem.run_bind, program, Sem.run, run_nilAhead hm, Result.andThen]
      simp
  · cases he

set_option maxHeartbeats 1000000 in
theorem exec_sound (h : WR g get n w) {nid : Nat} (hf : Fresh get n nid) {regs : T V} {a : Act} (hR : RR g.I (g.at get n) regs a.tmps) {o : Oper} {hm : Bool} {e : Eff} (hx : (exec P hm o.op).run regs get nid = some e) : Comes1 P o a g get n w nid e := by
  cases ho : o.op with
  | move x =>
    rw [ho] at hx
    obtain ⟨v, hv, he⟩ := rd1_some hx
    obtain rfl := Option.some.inj he
    exact comes_same h (by unfold execOp; rw [ho]; rfl) (rd_vr hR hv)
  | assign x =>
    rw [ho] at hx
    obtain ⟨v, hv, he⟩ := rd1_some hx
    obtain rfl := Option.some.inj he
    exact comes_same h (by unfold execOp; rw [ho]; rfl) (rd_vr hR hv)
  | pick c x y =>
    rw [ho] at hx
    obtain ⟨cv, hc, hx⟩ := rd1_some hx
    obtain ⟨xv, yv, h1, h2, he⟩ := rd2_some hx
    have hcv := rd_vr hR hc
    unfold xPick at he
    split at he
    · rename_i b
      obtain rfl := Option.some.inj he
      simp only [vr] at hcv
      refine comes_same h (x := if b then a.eval x else a.eval y) ?_ ?_
      · unfold execOp
        rw [ho]
        simp only [hcv, asBool, Sem.run_bind, Sem.run_pure, Result.andThen]
      · cases b
        · exact rd_vr hR h2
        · exact rd_vr hR h1
    · cases he
  | alloc t =>
    rw [ho] at hx
    simp only [exec] at hx
    cases hz : zeroOf P t with
    | none => simp [hz, X.no] at hx
    | some z =>
      simp only [hz] at hx
      obtain rfl := Option.some.inj hx
      exact alloc_sound h hf ho hz
  | box t x =>
    rw [ho] at hx
    obtain ⟨v, hv, he⟩ := rd1_some hx
    obtain rfl := Option.some.inj he
    exact box_sound h hf ho (rd_vr hR hv)
  | build t ps =>
    rw [ho] at hx
    simp only [exec] at hx
    cases hp : rdParts regs ps.toList with
    | none => simp [hp] at hx
    | some vs =>
      simp only [hp] at hx
      obtain ⟨v, hv, rfl⟩ := val_some hx
      obtain ⟨k1, k2⟩ := rdParts_sound hR hp
      have hps : (ps.map fun p => (p.1, a.eval p.2)).toList = ps.toList.map fun (p : Nat × Operand) => (p.1, a.eval p.2) := by simp
      exact comes_val h (exec_build ho) (build_sound (xs := ps.map fun p => (p.1, a.eval p.2)) (by rw [hps]; exact k1) (by rw [hps]; exact k2) hv w)
  | buildSlice t len ps =>
    rw [ho] at hx
    simp only [exec] at hx
    cases hp : rdParts regs ps.toList with
    | none => simp [hp] at hx
    | some vs =>
      simp only [hp] at hx
      cases hl : litCells P t len vs with
      | none => simp [hl] at hx
      | some q =>
        obtain ⟨cs, sz⟩ := q
        simp only [hl] at hx
        obtain ⟨k1, k2⟩ := rdParts_sound hR hp
        exact lit_sound h hf ho k1 k2 hl hx
  | load t x =>
    rw [ho] at hx
    obtain ⟨v, hv, he⟩ := rd1_some hx
    exact load_sound h ho (rd_vr hR hv) he
  | store t x y =>
    rw [ho] at hx
    simp only [exec] at hx
    split at hx
    · rename_i hok
      obtain ⟨u, v, h1, h2, he⟩ := rd2_some hx
      exact store_sound h ho (rd_vr hR h1) (rd_vr hR h2) hok he
    · cases hx
  | nilCheck x =>
    rw [ho] at hx
    obtain ⟨v, hv, he⟩ := rd1_some hx
    exact nilCheck_sound h ho (rd_vr hR hv) he
  | binOp op t x y ty =>
    rw [ho] at hx
    obtain ⟨u, v, h1, h2, he⟩ := rd2_some hx
    obtain ⟨z, hz, rfl⟩ := val_some he
    refine comes_val h (s := do eqGuard op t x y (a.eval x) (a.eval y); binOp op t (a.eval x) (a.eval y)) (by unfold execOp; rw [ho]) (binV_sound (P := P) (rd_vr hR h1) (rd_vr hR h2) ?_ ?_ hz w)
    · intro hc; cases x <;> simp at hc ⊢
    · intro hc; cases y <;> simp at hc ⊢
  | unOp op t x =>
    rw [ho] at hx
    obtain ⟨v, hv, he⟩ := rd1_some hx
    have hvr := rd_vr hR hv
    unfold xUn at he
    split at he
    · obtain rfl := Option.some.inj he
      simp only [vr] at hvr
      exact comes_val h (s := Op.unary .not (a.eval x)) (by unfold execOp; rw [ho]) ⟨_, by rw [hvr]; rfl, by simp only [vr]⟩
    · obtain rfl := Option.some.inj he
      simp only [vr] at hvr
      exact comes_val h (s := Op.unary .neg (a.eval x)) (by unfold execOp; rw [ho]) ⟨_, by rw [hvr]; rfl, by simp only [vr]⟩
    · cases he
  | convert src dst x =>
    rw [ho] at hx
    simp only [exec] at hx
    split at hx
    · rename_i hsrc
      obtain ⟨v, hv, he⟩ := rd1_some hx
      have hvr := rd_vr hR hv
      unfold xConv at he
      split at he
      · rename_i hd
        obtain rfl := Option.some.inj he
        simp only [vr] at hvr
        refine comes_val h (s := convert src dst (a.eval x)) (by unfold execOp; rw [ho]) ⟨_, ?_, by simp only [vr]; rfl⟩
        unfold convert
        rw [Sem.run_bind, run_okU hsrc w]
        simp only [Result.andThen, Sem.run_bind, run_und hd (by simp) w, hvr]
        cases und P src <;> rfl
      · rename_i hd
        obtain rfl := Option.some.inj he
        simp only [vr] at hvr
        refine comes_val h (s := convert src dst (a.eval x)) (by unfold execOp; rw [ho]) ⟨_, ?_, by simp only [vr]; rfl⟩
        unfold convert
        rw [Sem.run_bind, run_okU hsrc w]
        simp only [Result.andThen, Sem.run_bind, run_und hd (by simp) w, hvr]
        cases und P src <;> rfl
      · cases he
    · cases hx
  | makeInterface t x =>
    rw [ho] at hx
    simp only [exec] at hx
    split at hx
    · cases hx
    · rename_i hni
      split at hx
      · rename_i hok
        obtain ⟨v, hv, he⟩ := rd1_some hx
        obtain rfl := Option.some.inj he
        refine comes_val h (s := Instr.makeInterface t (a.eval x)) (by unfold execOp; rw [ho]) ⟨.iface t (a.eval x), ?_, by simp only [vr]; exact ⟨_, rfl, rd_vr hR hv⟩⟩
        unfold Instr.makeInterface
        rw [Sem.run_bind, run_okU hok w]
        simp only [Result.andThen]
        cases hd : und P t <;> first | rfl | exact (hni _ hd).elim
      · cases hx
  | makeFunc f first captured =>
    rw [ho] at hx
    simp only [exec] at hx
    split at hx
    · cases h1 : rds regs first.toList with
      | none => simp [h1] at hx
      | some as =>
        cases h2 : rds regs captured.toList with
        | none => simp [h1, h2] at hx
        | some bs =>
          simp only [h1, h2] at hx
          obtain rfl := Option.some.inj hx
          exact comes_val h (s := Instr.makeFunc _ (first.map a.eval) (captured.map a.eval)) (by unfold execOp; rw [ho]) ⟨_, rfl, by simp only [vr]; exact ⟨_, _, _, rfl, rfl, rds_map hR h1, rds_map hR h2⟩⟩
    · cases h1 : rds regs first.toList with
      | none => simp [h1] at hx
      | some as =>
        cases h2 : rds regs captured.toList with
        | none => simp [h1, h2] at hx
        | some bs =>
          simp only [h1, h2] at hx
          obtain rfl := Option.some.inj hx
          exact comes_val h (s := Instr.makeFunc _ (first.map a.eval) (captured.map a.eval)) (by unfold execOp; rw [ho]) ⟨_, rfl, by simp only [vr]; exact ⟨_, _, _, rfl, rfl, rds_map hR h1, rds_map hR h2⟩⟩
    · cases hx
  | makeMap t r =>
    rw [ho] at hx
    cases r with
    | none =>
      simp only [exec] at hx
      obtain rfl := Option.some.inj hx
      exact makeMap_sound h hf ho
    | some r => cases hx
  | makeSlice t x y =>
    rw [ho] at hx
    simp only [exec] at hx
    split at hx
    · rename_i el hd
      obtain ⟨u, v, h1, h2, he⟩ := rd2_some hx
      cases u with
      | int k l =>
        cases v with
        | int k' c =>
          simp only [asI] at he
          have e1 := rd_vr hR h1
          have e2 := rd_vr hR h2
          simp only [vr] at e1 e2
          exact make_sound h hf ho hd e1 e2 he
        | _ => cases he
      | _ => cases he
    · cases hx
  | slice t x lo hi mx =>
    rw [ho] at hx
    simp only [exec] at hx
    cases h1 : rd regs x with
    | none => simp [h1] at hx
    | some xv =>
      cases h2 : rdo regs lo with
      | none => simp [h1, h2] at hx
      | some lov =>
        cases h3 : rdo regs hi with
        | none => simp [h1, h2, h3] at hx
        | some hiv =>
          cases h4 : rdo regs mx with
          | none => simp [h1, h2, h3, h4] at hx
          | some mxv =>
            simp only [h1, h2, h3, h4] at hx
            obtain ⟨z, hz, rfl⟩ := val_some hx
            exact comes_val h (s := Instr.sliceAt t (a.eval x) (lo.map a.eval) (hi.map a.eval) (mx.map a.eval)) (by unfold execOp; rw [ho]) (sliceV_sound (rd_vr hR h1) (optR_rdo hR h2) (optR_rdo hR h3) (optR_rdo hR h4) hz w)
  | fieldAddr t x f =>
    rw [ho] at hx
    simp only [exec] at hx
    cases hfd : fieldOf P t f with
    | none => simp [hfd, X.no] at hx
    | some fd =>
      simp only [hfd] at hx
      split at hx
      · cases hx
      · rename_i hz
        obtain ⟨v, hv, he⟩ := rd1_some hx
        obtain ⟨z, hz', rfl⟩ := val_some he
        exact comes_val h (s := Instr.fieldAt t (a.eval x) f) (by unfold execOp; rw [ho]) (fieldAt_sound hfd hz (rd_vr hR hv) hz' w)
  | field t x f =>
    rw [ho] at hx
    simp only [exec] at hx
    cases hfd : fieldOf P t f with
    | none => simp [hfd, X.no] at hx
    | some fd =>
      simp only [hfd] at hx
      obtain ⟨v, hv, he⟩ := rd1_some hx
      unfold xField at he
      split at he
      · obtain ⟨z, hz', rfl⟩ := val_some he
        exact comes_val h (s := Instr.field t (a.eval x) f) (by unfold execOp; rw [ho]) (field_sound hfd (rd_vr hR hv) hz' w)
      · cases he
  | indexAddr t x i =>
    rw [ho] at hx
    obtain ⟨u, v, h1, h2, he⟩ := rd2_some hx
    obtain ⟨z, hz, rfl⟩ := val_some he
    exact comes_val h (s := Instr.indexAt t (a.eval x) (a.eval i)) (by unfold execOp; rw [ho]) (indexAddr_sound (rd_vr hR h1) (rd_vr hR h2) hz w)
  | index t x i =>
    rw [ho] at hx
    obtain ⟨u, v, h1, h2, he⟩ := rd2_some hx
    have e1 := rd_vr hR h1
    have e2 := rd_vr hR h2
    unfold xIndex at he
    split at he
    · rename_i hd
      simp only [vr] at e1 e2
      obtain ⟨xs, hxs, hl⟩ := e1
      split at he
      · rename_i hc
        obtain ⟨c1, c2, c3⟩ := hc
        obtain ⟨z, hz, rfl⟩ := val_some he
        obtain ⟨y, hy, hyv⟩ := run_part (P := P) hl hz w
        refine comes_val h (s := Instr.index t (a.eval x) (a.eval i)) (by unfold execOp; rw [ho]) ⟨y, ?_, hyv⟩
        unfold Instr.index
        simp only [hxs, e2, asIntOf, Sem.run_bind, Sem.run_pure, Result.andThen, run_und hd (by simp) w, if_pos (And.intro c1 c2), run_szOf c3 w, hy]
      · cases he
    · rename_i hd
      simp only [vr] at e1 e2
      split at he
      · rename_i hc
        obtain ⟨z, hz, rfl⟩ := val_some he
        rename_i b k ii
        cases hb : b.data.toList[ii.toNat]? with
        | none => rw [hb] at hz; cases hz
        | some cc =>
          rw [hb] at hz
          obtain rfl := Option.some.inj hz
          refine comes_val h (s := Instr.index t (a.eval x) (a.eval i)) (by unfold execOp; rw [ho]) ⟨.int .u8 cc.toNat, ?_, by simp only [vr]⟩
          have hb' : b[ii.toNat]? = some cc := by
            have : b.data[ii.toNat]? = some cc := by simpa using hb
            obtain ⟨hlt, hv⟩ := Array.getElem?_eq_some_iff.1 this
            rw [getElem?_pos b ii.toNat hlt]
            exact congrArg some hv
          unfold Instr.index
          simp only [e1, e2, asIntOf, Sem.run_bind, Sem.run_pure, Result.andThen, run_und hd (by simp) w, if_pos hc, hb']
      · cases he
    · cases he
  | lookup t x i ok =>
    rw [ho] at hx
    obtain ⟨u, v, h1, h2, he⟩ := rd2_some hx
    obtain ⟨q1, q2, hr⟩ := lookup_sound (P := P) h (rd_vr hR h1) (rd_vr hR h2) he
    obtain ⟨ev, er, ew, en, ep⟩ := e
    simp only at q1 q2; subst q1 q2
    exact comes_val h (s := Instr.lookup t (a.eval x) (a.eval i) ok) (by unfold execOp; rw [ho]) hr
  | mapUpdate t m k x =>
    rw [ho] at hx
    obtain ⟨mv, h0, hx⟩ := rd1_some hx
    obtain ⟨u, v, h1, h2, he⟩ := rd2_some hx
    exact mapUpdate_sound h (by unfold execOp; rw [ho]) (rd_vr hR h0) (rd_vr hR h1) (rd_vr hR h2) he
  | insert t m k x =>
    rw [ho] at hx
    obtain ⟨mv, h0, hx⟩ := rd1_some hx
    obtain ⟨u, v, h1, h2, he⟩ := rd2_some hx
    exact mapUpdate_sound h (by unfold execOp; rw [ho]) (rd_vr hR h0) (rd_vr hR h1) (rd_vr hR h2) he
  | range t x =>
    rw [ho] at hx
    simp only [exec] at hx
    split at hx
    · rename_i hd
      obtain ⟨v, hv, he⟩ := rd1_some hx
      exact range_sound h hf ho hd (rd_vr hR hv) he
    · cases hx
  | entry x =>
    rw [ho] at hx
    obtain ⟨v, hv, he⟩ := rd1_some hx
    exact entry_sound h ho (rd_vr hR hv) he
  | typeAssert x xt t ok =>
    rw [ho] at hx
    obtain ⟨v, hv, he⟩ := rd1_some hx
    have e1 := rd_vr hR hv
    have hex : execOp a.eval o = (do pure (.value (← Instr.typeAssert (a.eval x) xt t ok))) := by unfold execOp; rw [ho]
    unfold xAssert at he
    split at he
    · cases he
    · cases he
    · rename_i hni hnv
      obtain ⟨d, hd⟩ : ∃ d, und P t = d := ⟨_, rfl⟩
      have hdv : d ≠ .invalid := fun hh => hnv (by rw [hd, hh])
      have fail : ∀ {z : V} {s d : Option TypeId} {m : String}, zeroOf P t = some z → ok = true → ∃ y, ((if ok then (do pure (.tuple #[← zeroValue t, .bool false])) else runtimePanic (.typeAssertion s d t m) : Sem Value)).run P w = .ok y w ∧ vr g.I (g.at get n) (.tup [z, .bool false]) y := by
        intro z s d m hz hok
        obtain ⟨zx, hzr, hzv⟩ := run_zero hz w
        refine ⟨.tuple #[zx, .bool false], ?_, ?_⟩
        · rw [if_pos hok, Sem.run_bind, hzr]; rfl
        · simp only [vr, vrl]; exact ⟨_, rfl, _, _, rfl, hzv _ _, _, _, rfl, rfl, rfl⟩
      split at he
      · rename_i t' u
        simp only [vr] at e1
        obtain ⟨y, hy, hyv⟩ := e1
        split at he
        · rename_i htt
          obtain rfl := Option.some.inj he
          refine comes_val h hex ⟨if ok then .tuple #[y, .bool true] else y, ?_, ?_⟩
          · unfold Instr.typeAssert
            rw [Sem.run_bind, run_und hd hdv w, hy]
            cases d <;> first | exact absurd hd (hni _) | (simp only [Result.andThen, htt, if_true]; rfl)
          · cases ok
            · exact hyv
            · simp only [vr, vrl, if_true]; exact ⟨_, rfl, _, _, rfl, hyv, _, _, rfl, rfl, rfl⟩
        · rename_i htt
          split at he
          · rename_i hok
            split at he
            · rename_i z hz
              obtain rfl := Option.some.inj he
              obtain ⟨y', q1, q2⟩ := fail (s := some xt) (d := some t') (m := "") hz hok
              refine comes_val h hex ⟨y', ?_, q2⟩
              unfold Instr.typeAssert
              rw [Sem.run_bind, run_und hd hdv w, hy]
              cases d <;> first | exact absurd hd (hni _) | (simp only [Result.andThen, htt, if_false]; exact q1)
            · cases he
          · cases he
      · simp only [vr] at e1
        split at he
        · rename_i hok
          split at he
          · rename_i z hz
            obtain rfl := Option.some.inj he
            obtain ⟨y', q1, q2⟩ := fail (s := some xt) (d := none) (m := "") hz hok
            refine comes_val h hex ⟨y', ?_, q2⟩
            unfold Instr.typeAssert
            rw [Sem.run_bind, run_und hd hdv w, e1]
            cases d <;> first | exact absurd hd (hni _) | (simp only [Result.andThen]; exact q1)
          · cases he
        · cases he
      · cases he
  | extract x i =>
    rw [ho] at hx
    obtain ⟨v, hv, he⟩ := rd1_some hx
    unfold xExtract at he
    split at he
    · obtain ⟨z, hz, rfl⟩ := val_some he
      have e1 := rd_vr hR hv
      simp only [vr] at e1
      obtain ⟨ys, hys, hl⟩ := e1
      obtain ⟨y, hy, hyv⟩ := vrl_get hl hz
      have hy' : ys[i]? = some y := by simpa using hy
      refine comes_val h (s := Instr.extract (a.eval x) i) (by unfold execOp; rw [ho]) ⟨y, ?_, hyv⟩
      unfold Instr.extract
      simp only [hys, hy', Sem.run_pure]
    · cases he
  | call c =>
    rw [ho] at hx
    simp only [exec] at hx
    split at hx
    · rename_i b hb
      cases hargs : rds regs c.args.toList with
      | none => simp [hargs] at hx
      | some args =>
        simp only [hargs] at hx
        have hA := rds_map hR hargs
        obtain ⟨consts, hrun⟩ := exec_builtin (P := P) (a := a) ho hb w
        unfold builtinV at hx
        split at hx
        · -- len
          split at hx
          · rename_i t0 x0 hts
            simp only [vrl] at hA
            obtain ⟨x', xs, hxe, hv, rfl⟩ := hA
            obtain ⟨q1, q2, y, hy, hyv⟩ := len_sound (P := P) h hv hx
            obtain ⟨ev, er, ew, en, ep⟩ := e
            simp only at q1 q2; subst q1 q2
            refine comes_same h (x := y) ?_ hyv
            rw [hrun, arr_of_list hts, arr_of_list hxe]
            have := hy o.type
            simp only [builtin, Sem.run_bind]
            rw [this]; rfl
          · cases hx
        · -- append
          split at hx
          · rename_i t0 u0 s0 x0 hts
            simp only [vrl] at hA
            obtain ⟨s', xs, hxe, hs, x', xs', rfl, hv, rfl⟩ := hA
            split at hx
            · cases hx
            · rename_i du el hd hni
              split at hx
              · cases hx
              · rename_i hok
                have hok' : okU P u0 = true ∧ okZ P el = true := by
                  constructor
                  · cases hq : okU P u0 with
                    | true => rfl
                    | false => exact absurd (.inl hq) hok
                  · cases hq : okZ P el with
                    | true => rfl
                    | false => exact absurd (.inr hq) hok
                obtain ⟨hok, hz⟩ := hok'
                cases hsc : sliceCells get x0 with
                | none => simp [hsc] at hx
                | some q =>
                  obtain ⟨cs, m, rs⟩ := q
                  simp only [hsc] at hx
                  split at hx
                  · cases hx
                  · rename_i hcc
                    have hone : V.ones cs = true := by
                      cases hq : V.ones cs with
                      | true => rfl
                      | false => exact absurd (.inl hq) hcc
                    have hcl : cs.length = m * szOf P el := by
                      by_cases hq : cs.length = m * szOf P el
                      · exact hq
                      · exact absurd (.inr hq) hcc
                    have hint : ∀ k, und P u0 ≠ .int k := fun k hq => hni k hq
                    have fin : ∀ {y w'}, (Builtin.append_ #[t0, u0] o.type #[s', x']).run P w = .ok y w' → (execOp a.eval o).run P w = .ok (.value y) w' := by
                      intro y w' hy
                      rw [hrun, arr_of_list hts, arr_of_list hxe]
                      simp only [builtin, Sem.run_bind]
                      rw [hy]; rfl
                    split at hx
                    · rename_i hm0
                      subst hm0
                      obtain ⟨ys, hn, hlen, hfirst⟩ := src_sound (P := P) h hv hsc hcl
                      have hys : ys = [] := by
                        have := vrl_len hn
                        rw [hcl] at this
                        exact List.length_eq_zero_iff.1 (by simpa using this)
                      subst hys
                      split at hx
                      · obtain rfl := Option.some.inj hx
                        have hs2 := hs
                        simp only [vr] at hs2; subst hs2
                        exact comes_same h (fin (append_in hd hok hint hz (base := none) (sLen := 0) (sCap := 0) hlen (by omega) (hfirst w rfl) rfl)) hs
                      · obtain rfl := Option.some.inj hx
                        have hs2 := hs
                        simp only [vr] at hs2
                        obtain ⟨b1, o1, cap1, rfl, hlc, _⟩ := hs2
                        exact comes_same h (fin (append_in hd hok hint hz hlen (by omega) (hfirst w rfl) rfl)) hs
                      · obtain rfl := Option.some.inj hx
                        have hs2 := hs
                        simp only [vr] at hs2
                        obtain ⟨b1, c1, rfl, _, _, _, hlc, hcc1, _⟩ := hs2
                        exact comes_same h (fin (append_in hd hok hint hz hlen (by omega) (hfirst w rfl) rfl)) hs
                      · cases hx
                    · rename_i hm0
                      obtain ⟨y, w', g', hy, hW, hE, hvv⟩ := append_sound (P := P) h hf hd hok hint hs hv hsc hone hcl hm0 hx o.type
                      exact ⟨y, w', g', .inl (fin hy), hW, hE, hvv⟩
            · cases hx
          · cases hx
        · -- max
          split at hx
          · obtain ⟨z, hz, rfl⟩ := val_some hx
            simp only [vrl] at hA
            obtain ⟨x', xs, hxe, hv, hl⟩ := hA
            obtain ⟨y, hy, hyv⟩ := max_sound (P := P) hv hl hz w
            refine comes_same h (x := y) ?_ hyv
            rw [hrun]
            simp only [builtin, Sem.run_bind, Builtin.max_, hxe]
            rw [hy]; rfl
          · cases hx
        · -- min
          split at hx
          · obtain ⟨z, hz, rfl⟩ := val_some hx
            simp only [vrl] at hA
            obtain ⟨x', xs, hxe, hv, hl⟩ := hA
            obtain ⟨y, hy, hyv⟩ := min_sound (P := P) hv hl hz w
            refine comes_same h (x := y) ?_ hyv
            rw [hrun]
            simp only [builtin, Sem.run_bind, Builtin.min_, hxe]
            rw [hy]; rfl
          · cases hx
        · cases hx
    · cases hx
  | _ => rw [ho] at hx; cases hx

end
end Go.Ae
