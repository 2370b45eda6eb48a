/- The abstract evaluator: states; an operation in the kit's calculus. -/
import Derived.Test.YtelobjfgghlkfaaGreatA4
import Derived.RangeFuncRecord
set_option linter.all false
noncomputable section
namespace Go.Ae
variable {P : Program}

/-! ### Blocks below n alone matter -/
theorem at_congr {g : G} {get get' : Nat → Blk} {n : Nat} (h : ∀ j, j < n → get j = get' j) : g.at get n = g.at get' n := by
  unfold G.at
  congr 1
  · funext r o a; apply propext; constructor <;> (rintro ⟨h1, h2⟩; exact ⟨h1, by first | (rw [← h r h1]; exact h2) | (rw [h r h1]; exact h2)⟩)
  · funext r o l c s e a m; apply propext; constructor <;> (rintro ⟨h1, h2⟩; exact ⟨h1, by first | (rw [← h r h1]; exact h2) | (rw [h r h1]; exact h2)⟩)
  · funext r b; apply propext; constructor <;> (rintro ⟨h1, h2⟩; exact ⟨h1, by first | (rw [← h r h1]; exact h2) | (rw [h r h1]; exact h2)⟩)
  · funext r b; apply propext; constructor <;> (rintro ⟨h1, h2⟩; exact ⟨h1, by first | (rw [← h r h1]; exact h2) | (rw [h r h1]; exact h2)⟩)
  · funext r e b k c; apply propext; constructor <;> (rintro ⟨h1, h2⟩; exact ⟨h1, by first | (rw [← h r h1]; exact h2) | (rw [h r h1]; exact h2)⟩)

theorem WR.congr {g : G} {get get' : Nat → Blk} {n : Nat} {w : World} (h : ∀ j, j < n → get j = get' j) (hW : WR g get n w) : WR g get' n w where
  imm := hW.imm
  blk r hr := by
    have hb := hW.blk r hr
    rw [h r hr] at hb
    have ha := at_congr (g := g) h
    cases hg : get' r with
    | iter m ver left cur =>
      rw [hg] at hb
      cases m with
      | none => exact hb
      | some m =>
        obtain ⟨h1, h2, h3, since, seen, last, h4, h5, h6⟩ := hb
        refine ⟨h1, by rw [← h m h1]; exact h2, h3, since, seen, last, h4, fun es ver' hq => h5 es ver' (by rw [h m h1]; exact hq), fun es hq => ?_⟩
        rw [← ha]
        exact h6 es (by rw [h m h1]; exact hq)
    | loop fn regs params assign body pend st d =>
      rw [hg] at hb
      obtain ⟨L, h1, h2, h3, h5, h6, h7, h8, h9, h10, h11⟩ := hb
      exact ⟨L, h1, h2, h3, h5, h6, h7, by rw [← ha]; exact h8, h9, by rw [← h d h9]; exact h10, h11⟩
    | row k cs => rw [hg] at hb; simp only [blkR] at hb ⊢; rw [← ha]; exact hb
    | map es ver => rw [hg] at hb; simp only [blkR] at hb ⊢; rw [← ha]; exact hb
    | tok hw => rw [hg] at hb; exact hb
    | dfr => rw [hg] at hb; exact hb
    | gone => trivial
    | resv => trivial
  inj r r' hr hr' hl hl' := hW.inj r r' hr hr' (by rw [h r hr]; exact hl) (by rw [h r' hr']; exact hl')

theorem img_congr {g : G} {get get' : Nat → Blk} {n : Nat} (h : ∀ j, j < n → get j = get' j) {b : Nat} : g.img get n b ↔ g.img get' n b := by
  constructor
  · rintro ⟨r, h1, h2, h3⟩; exact ⟨r, h1, by rw [← h r h1]; exact h2, h3⟩
  · rintro ⟨r, h1, h2, h3⟩; exact ⟨r, h1, by rw [h r h1]; exact h2, h3⟩

theorem Ext.congr {g g' : G} {get get1 get' get1' : Nat → Blk} {n n' : Nat} {w w' : World} (h : ∀ j, j < n → get j = get1 j) (h' : ∀ j, j < n' → get' j = get1' j) (e : Ext g get n w g' get' n' w') : Ext g get1 n w g' get1' n' w' where
  n_le := e.n_le
  I_le := e.I_le
  I_new b o x hx := by
    rcases e.I_new b o x hx with h1 | h1 | h1
    · exact .inl h1
    · exact .inr (.inl h1)
    · exact .inr (.inr ((img_congr h).1 h1))
  size := e.size
  frame b hb hn := e.frame b hb fun hi => hn ((img_congr h).1 hi)
  back b hb hi := (img_congr h).1 (e.back b hb ((img_congr h').2 hi))
  ids r hr hf := by
    have hr' := Nat.lt_of_lt_of_le hr e.n_le
    obtain ⟨a1, a2⟩ := e.ids r hr (by rw [h r hr]; exact hf)
    exact ⟨by rw [← h' r hr']; exact a1, a2⟩
  kept r hr hk := by rw [← h' r (Nat.lt_of_lt_of_le hr e.n_le)]; exact e.kept r hr (by rw [h r hr]; exact hk)
  toks r hr hw hw' e1 e2 := e.toks r hr hw hw' (by rw [h r hr]; exact e1) (by rw [h' r (Nat.lt_of_lt_of_le hr e.n_le)]; exact e2)
  maps r hr es ver hg := by rw [← h' r (Nat.lt_of_lt_of_le hr e.n_le)]; exact e.maps r hr es ver (by rw [h r hr]; exact hg)
  tape := e.tape
  os := e.os
  output := e.output

/-! ### Effects on heaps -/
theorem foldl_set : ∀ (l : List (Nat × Blk)) {h : H}, h.wf → (l.foldl (fun h (p : Nat × Blk) => h.set p.1 p.2) h).wf ∧ (l.foldl (fun h (p : Nat × Blk) => h.set p.1 p.2) h).n = h.n ∧ ∀ j, j < h.n → (l.foldl (fun h (p : Nat × Blk) => h.set p.1 p.2) h).get j = updW h.get l j
  | [], h, hw => ⟨hw, rfl, fun _ _ => rfl⟩
  | (r, b) :: l, h, hw => by
    obtain ⟨h1, h2, h3⟩ := foldl_set l (H.wf_set hw r b)
    refine ⟨h1, h2, fun j hj => ?_⟩
    simp only [List.foldl_cons]
    rw [h3 j hj]
    show updW (h.set r b).get l j = updW (upd h.get r b) l j
    have key : ∀ (l : List (Nat × Blk)) (p q : Nat → Blk), p j = q j → updW p l j = updW q l j := by
      intro l
      induction l with
      | nil => intro p q hpq; exact hpq
      | cons x l ih =>
        intro p q hpq
        obtain ⟨r', b'⟩ := x
        refine ih _ _ ?_
        unfold upd
        split
        · rfl
        · exact hpq
    refine key l _ _ ?_
    rw [H.get_set hw]
    unfold upd
    by_cases hjr : j = r
    · rw [if_pos ⟨hjr, by omega⟩, if_pos hjr]
    · rw [if_neg (fun hh => hjr hh.1), if_neg hjr]

theorem news_get : ∀ (l : List Blk) {h : H}, h.wf → (h.news l).wf ∧ (h.news l).n = h.n + l.length ∧ ∀ (get : Nat → Blk), (∀ j, j < h.n → h.get j = get j) → ∀ j, j < h.n + l.length → (h.news l).get j = updN get h.n l j
  | [], h, hw => ⟨hw, rfl, fun get hg j hj => hg j hj⟩
  | b :: l, h, hw => by
    obtain ⟨h1, h2, h3⟩ := news_get l (H.wf_new hw b)
    have hn : (h.new b).n = h.n + 1 := rfl
    refine ⟨h1, by show (H.news (h.new b) l).n = _; rw [h2, hn, List.length_cons]; omega, fun get hg j hj => ?_⟩
    show (H.news (h.new b) l).get j = updN (upd get h.n b) (h.n + 1) l j
    refine h3 (upd get h.n b) (fun i hi => ?_) j (by rw [hn]; simp only [List.length_cons] at hj; omega)
    rw [H.get_new hw]
    unfold upd
    by_cases hi' : i = h.n
    · rw [if_pos hi', if_pos hi']
    · rw [if_neg hi', if_neg hi']; exact hg i (by rw [hn] at hi; omega)

theorem Eff.apply_get (e : Eff) {h : H} (hw : h.wf) : (e.apply h).wf ∧ (e.apply h).n = e.top h.n h.n ∧ ∀ j, j < (e.apply h).n → (e.apply h).get j = e.upd h.get h.n j := by
  obtain ⟨h1, h2, h3⟩ := foldl_set e.wr hw
  obtain ⟨k1, k2, k3⟩ := news_get e.nw h1
  refine ⟨k1, ?_, fun j hj => ?_⟩
  · show (H.news _ e.nw).n = _
    rw [k2, h2]
    unfold Eff.top
    cases e.nw with
    | nil => rfl
    | cons b l => simp only; omega
  · have := k3 (updW h.get e.wr) (fun i hi => h3 i (by rw [h2] at hi; exact hi)) j (by rw [← k2]; exact hj)
    rw [h2] at this
    exact this

theorem fresh_top {h : H} : Fresh h.get h.n h.n := ⟨Nat.le_refl _, fun hh => absurd hh (Nat.lt_irrefl _)⟩

/-! ### States -/
/-- Deferred calls. -/
def dfR (g : G) (get : Nat → Blk) (n : Nat) : List D → List Deferred → Prop
  | [], ds => ds = []
  | .call f cap args :: l, ds => ∃ d ds', ds = d :: ds' ∧ (∃ c, d.target = .fn (.func f) c ∧ vrl g.I (g.at get n) cap c.toList ∧ vrl g.I (g.at get n) args d.args.toList) ∧ dfR g get n l ds'
  | .mark r :: l, ds => ∃ ds', ds = { target := .collected (g.mu r), args := #[] } :: ds' ∧ r < n ∧ (get r).firm = true ∧ dfR g get n l ds'

theorem dfR_ext {g g' : G} {get get' : Nat → Blk} {n n' : Nat} {w w' : World} (e : Ext g get n w g' get' n' w') : ∀ {l : List D} {ds : List Deferred}, dfR g get n l ds → dfR g' get' n' l ds
  | [], _, h => h
  | .call _ _ _ :: _, _, ⟨d, ds', h1, ⟨c, h2, h3, h4⟩, h5⟩ => ⟨d, ds', h1, ⟨c, h2, e.vrl h3, e.vrl h4⟩, dfR_ext e h5⟩
  | .mark r :: _, _, ⟨ds', h1, h2, h3, h4⟩ => by
    obtain ⟨i1, i2, _⟩ := e.ids r h2 h3
    exact ⟨ds', by rw [i2]; exact h1, Nat.lt_of_lt_of_le h2 e.n_le, i1, dfR_ext e h4⟩

/-- A state, and the machine's. -/
structure SR (g : G) (s : St) (a : Act) (w : World) : Prop where
  wf : s.h.wf
  rr : RR g.I (g.at s.h.get s.h.n) s.regs a.tmps
  wr : WR g s.h.get s.h.n w
  df : dfR g s.h.get s.h.n s.dfs a.defers

/-- On from heap to heap. -/
abbrev Ext2 (g : G) (h : H) (w : World) (g' : G) (h' : H) (w' : World) : Prop := Ext g h.get h.n w g' h'.get h'.n w'

theorem put_rr {I : Imm} {A : At} {regs : T V} {a : Act} (h : RR I A regs a.tmps) (dst : Option Tmp) {v : V} {x : Value} (hv : vr I A v x) : RR I A (put regs dst v) (a.put dst x).tmps := by
  cases dst with
  | none => exact h
  | some d => exact h.set d hv

theorem put_defers (a : Act) (dst : Option Tmp) (x : Value) : (a.put dst x).defers = a.defers := by cases dst <;> rfl

/-- What an operation has come to, as a state. -/
theorem comes_state {g : G} {s : St} {a : Act} {w : World} (hS : SR g s a w) {o : Oper} {e : Eff} (hc : Comes1 P o a g s.h.get s.h.n w s.h.n e) :
    ∃ x w' g', Gives P o a w x w' ∧ SR g' (s.eff o e) (a.put o.dst x) w' ∧ Ext2 g s.h w g' (s.eff o e).h w' := by
  obtain ⟨x, w', g', hg, hW, hE, hv⟩ := hc
  obtain ⟨k1, k2, k3⟩ := e.apply_get hS.wf
  have k3' : ∀ j, j < e.top s.h.n s.h.n → e.upd s.h.get s.h.n j = (e.apply s.h).get j := fun j hj => (k3 j (by rw [k2]; exact hj)).symm
  have ha := at_congr (g := g') k3'
  have hE' : Ext g s.h.get s.h.n w g' (e.apply s.h).get (e.apply s.h).n w' := by rw [k2]; exact hE.congr (fun _ _ => rfl) k3'
  refine ⟨x, w', g', hg, ⟨k1, ?_, ?_, ?_⟩, hE'⟩
  · show RR g'.I (g'.at (e.apply s.h).get (e.apply s.h).n) (put s.regs o.dst e.v) _
    refine put_rr (hE'.rr hS.rr) o.dst ?_
    rw [k2, ← ha]; exact hv
  · show WR g' (e.apply s.h).get (e.apply s.h).n w'
    rw [k2]; exact hW.congr k3'
  · show dfR g' (e.apply s.h).get (e.apply s.h).n s.dfs _
    rw [put_defers]
    exact dfR_ext hE' hS.df

/-! ### In the calculus -/
/-- The fence of a frame. -/
def fenceAt (g : G) : Option Nat → Fence
  | none => Fence.wide
  | some l => Fence.wide.inRound (g.mu l)

theorem fenceAt_fn (g : G) (r : Option Nat) (f : FuncId) : (fenceAt g r).fn f := by cases r <;> trivial
theorem fenceAt_depth (g : G) (r : Option Nat) : (fenceAt g r).depth = none := by cases r <;> rfl

theorem gives_wpIn {g : G} {r : Option Nat} {o : Oper} {a : Act} {w w' : World} {x : Value} (hnd : ∀ c, o.op ≠ .defer c) (h : Gives P o a w x w') {K : Act → World → Prop} {Q : Exit → Act → World → Prop} (hk : K (a.put o.dst x) w') : o.wpIn (fenceAt g r) 0 P a w K Q := by
  refine ⟨fun f _ => fenceAt_fn g r f, ?_⟩
  rw [Oper.semAt_eq _ _ _ hnd]
  rcases h with h | ⟨h, rfl⟩
  · rw [h]; exact hk
  · rw [h]; exact hk

end Go.Ae

/- The abstract evaluator: the blocks of a call are taken over. -/
namespace Go.Ae
variable {P : Program}

/-- References, shifted. -/
structure At.shiftLe (A B : At) (k : Nat) : Prop where
  ptr : ∀ r o x, A.ptr r o x → B.ptr (k + r) o x
  hs : ∀ r o l c s e x m, A.hs r o l c s e x m → B.hs (k + r) o l c s e x m
  map : ∀ r x, A.map r x → B.map (k + r) x
  yld : ∀ r x, A.yld r x → B.yld (k + r) x
  tok : ∀ r e b q c, A.tok r e b q c → B.tok (k + r) e b q c

mutual
theorem vr_shift {I : Imm} {A B : At} {k : Nat} (hs : A.shiftLe B k) : ∀ {v : V} {x : Value}, vr I A v x → vr I B (v.shift k) x
  | .bool _, _, h => by simpa [V.shift, vr] using h
  | .int _ _, _, h => by simpa [V.shift, vr] using h
  | .str _, _, h => by simpa [V.shift, vr] using h
  | .nilp, _, h => by simpa [V.shift, vr] using h
  | .ptr _ _, _, h => by
    simp only [V.shift, vr] at h ⊢
    obtain ⟨a, e, h⟩ := h
    exact ⟨a, e, hs.ptr _ _ _ h⟩
  | .iptr _, _, h => by simpa [V.shift, vr] using h
  | .nils, _, h => by simpa [V.shift, vr] using h
  | .ze, _, h => by simpa [V.shift, vr] using h
  | .vs _ _ _ .tight, _, h => by simpa [V.shift, vr, ownR] using h
  | .vs _ _ _ .lock, _, h => by simpa [V.shift, vr, ownR] using h
  | .vs _ _ _ (.tok _ _), _, h => by
    simp only [V.shift, vr] at h ⊢
    obtain ⟨b, o, cap, e, h1, h2, h3, h4⟩ := h
    exact ⟨b, o, cap, e, h1, h2, h3, hs.tok _ _ _ _ _ h4⟩
  | .hs _ _ _ _ _ _, _, h => by
    simp only [V.shift, vr] at h ⊢
    obtain ⟨a, m, e, h⟩ := h
    exact ⟨a, m, e, hs.hs _ _ _ _ _ _ _ _ h⟩
  | .nilm, _, h => by simpa [V.shift, vr] using h
  | .map _, _, h => by
    simp only [V.shift, vr] at h ⊢
    obtain ⟨a, e, h⟩ := h
    exact ⟨a, e, hs.map _ _ h⟩
  | .fn f _ _, _, h => by
    simp only [V.shift, vr] at h ⊢
    obtain ⟨f', a', c', e, h1, h2, h3⟩ := h
    refine ⟨f', a', c', e, ?_, vrl_shift hs h2, vrl_shift hs h3⟩
    cases f <;> cases f' <;> first | exact hs.yld _ _ h1 | exact h1
  | .nilf, _, h => by simpa [V.shift, vr] using h
  | .iface _ _, _, h => by
    simp only [V.shift, vr] at h ⊢
    obtain ⟨y, e, h⟩ := h
    exact ⟨y, e, vr_shift hs h⟩
  | .nilif, _, h => by simpa [V.shift, vr] using h
  | .agg _, _, h => by
    simp only [V.shift, vr] at h ⊢
    obtain ⟨y, e, h⟩ := h
    exact ⟨y, e, vrl_shift hs h⟩
  | .tup _, _, h => by
    simp only [V.shift, vr] at h ⊢
    obtain ⟨y, e, h⟩ := h
    exact ⟨y, e, vrl_shift hs h⟩
theorem vrl_shift {I : Imm} {A B : At} {k : Nat} (hs : A.shiftLe B k) : ∀ {vs : List V} {xs : List Value}, vrl I A vs xs → vrl I B (V.shifts k vs) xs
  | [], _, h => by simpa [V.shifts, vrl] using h
  | _ :: _, _, h => by
    simp only [V.shifts, vrl] at h ⊢
    obtain ⟨x, xs, e, h1, h2⟩ := h
    exact ⟨x, xs, e, vr_shift hs h1, vrl_shift hs h2⟩
end

theorem shifts_get (k : Nat) : ∀ (l : List V) (i : Nat), (V.shifts k l)[i]? = l[i]?.map (V.shift k)
  | [], i => by simp [V.shifts]
  | v :: l, 0 => by simp [V.shifts]
  | v :: l, i + 1 => by simpa [V.shifts] using shifts_get k l i
theorem shifts_len (k : Nat) : ∀ (l : List V), (V.shifts k l).length = l.length
  | [] => rfl
  | v :: l => by simp [V.shifts, shifts_len k l]

theorem entsR_shift {I : Imm} {A B : At} {k : Nat} (hs : A.shiftLe B k) : ∀ {l : List (V × V)} {es : List MapEntry}, entsR I A l es → entsR I B (shiftEs k l) es
  | [], _, h => h
  | (_, _) :: _, _, ⟨e, es', h, h1, h2, h3⟩ => ⟨e, es', h, vr_shift hs h1, vr_shift hs h2, entsR_shift hs h3⟩

/-- Numbers that are new. -/
def FreshN (get : Nat → Blk) (n nid k : Nat) : Prop := nid ≤ n ∧ ∀ j, nid ≤ j → j < nid + k → j < n → get j = .resv

/-- The blocks of a call, behind those of the caller. -/
def impGet (get get1 : Nat → Blk) (nid k : Nat) : Nat → Blk := fun j => if nid ≤ j ∧ j < nid + k then (get1 (j - nid)).shift nid else get j
def impG (g g1 : G) (nid k : Nat) : G where
  I := g1.I
  mu j := if nid ≤ j ∧ j < nid + k then g1.mu (j - nid) else g.mu j
  base j := if nid ≤ j ∧ j < nid + k then g1.base (j - nid) else g.base j
  ts j := if nid ≤ j ∧ j < nid + k then g1.ts (j - nid) else g.ts j

theorem shift_firm {b : Blk} {k : Nat} (h : b.firm = true) : (b.shift k).firm = true := by cases b <;> first | rfl | cases h
theorem shift_tok {b : Blk} {k hw : Nat} (h : b.shift k = .tok hw) : b = .tok hw := by cases b <;> first | exact h | cases h
theorem shift_live {b : Blk} {k : Nat} (h : (b.shift k).live = true) : b.live = true := by cases b <;> first | rfl | cases h

theorem imp_at {g g1 : G} {get get1 : Nat → Blk} {n nid k : Nat} : (g1.at get1 k).shiftLe ((impG g g1 nid k).at (impGet get get1 nid k) (max n (nid + k))) nid := by
  have hc : ∀ {r}, r < k → nid ≤ nid + r ∧ nid + r < nid + k := fun h => by omega
  have e0 : ∀ r, nid + r - nid = r := fun r => by omega
  have eg : ∀ {r}, r < k → impGet get get1 nid k (nid + r) = (get1 r).shift nid := fun {r} h => by unfold impGet; rw [if_pos (hc h), e0]
  have em : ∀ {r}, r < k → (impG g g1 nid k).mu (nid + r) = g1.mu r := fun {r} h => by show (if _ then _ else _) = _; rw [if_pos (hc h), e0]
  have eb : ∀ {r}, r < k → (impG g g1 nid k).base (nid + r) = g1.base r := fun {r} h => by show (if _ then _ else _) = _; rw [if_pos (hc h), e0]
  have et : ∀ {r}, r < k → (impG g g1 nid k).ts (nid + r) = g1.ts r := fun {r} h => by show (if _ then _ else _) = _; rw [if_pos (hc h), e0]
  refine ⟨?_, ?_, ?_, ?_, ?_⟩
  · rintro r o x ⟨h1, h2, rfl⟩
    exact ⟨by omega, by rw [eg h1]; exact shift_firm h2, by rw [em h1, eb h1]⟩
  · rintro r o l c s e x m ⟨h1, h2, rfl, h3, h4, h5, h6⟩
    exact ⟨by omega, by rw [eg h1]; exact shift_firm h2, by rw [em h1, eb h1], h3, h4, h5, by rw [eb h1, et h1]; exact h6⟩
  · rintro r x ⟨h1, h2, rfl⟩
    exact ⟨by omega, by rw [eg h1]; exact shift_firm h2, by rw [em h1]⟩
  · rintro r x ⟨h1, h2, rfl⟩
    exact ⟨by omega, by rw [eg h1]; exact shift_firm h2, by rw [em h1]⟩
  · rintro r e b q c ⟨h1, h2, h3⟩
    refine ⟨by omega, ?_, fun hw hg => ?_⟩
    · rw [eg h1]; cases hb : get1 r <;> first | simp [Blk.shift] | exact absurd hb h2
    · rw [eg h1] at hg
      obtain ⟨a1, a2⟩ := h3 hw (shift_tok hg)
      exact ⟨a1, fun e' => by obtain ⟨b1, b2, b3⟩ := a2 e'; exact ⟨by rw [em h1]; exact b1, by rw [eb h1]; exact b2, by rw [et h1]; exact b3⟩⟩

/-- The blocks of a call that began with none are taken over. -/
theorem imp_sound {g : G} {get : Nat → Blk} {n : Nat} {w : World} (h : WR g get n w) {g1 : G} {get1 : Nat → Blk} {k : Nat} {w1 : World} (h1 : WR g1 get1 k w1) {get0 : Nat → Blk} (e1 : Ext g get0 0 w g1 get1 k w1) {nid : Nat} (hf : FreshN get n nid k) :
    WR (impG g g1 nid k) (impGet get get1 nid k) (max n (nid + k)) w1 ∧ Ext g get n w (impG g g1 nid k) (impGet get get1 nid k) (max n (nid + k)) w1 := by
  have himg : ∀ b, ¬ g.img get0 0 b := fun b ⟨r, hr, _⟩ => by omega
  have e0 : ∀ r, nid + r - nid = r := fun r => by omega
  have hres : ∀ j, j < n → nid ≤ j ∧ j < nid + k → get j = .resv := fun j hj hc => hf.2 j hc.1 hc.2 hj
  refine WR.go (fun j => nid ≤ j ∧ j < nid + k) (fun _ => False) h (Nat.le_max_left _ _) ?_ ?_ e1.size (fun b hb _ => e1.frame b hb (himg b)) (fun _ _ hd => hd.elim) e1.I_le ?_ (fun b o x hx _ => h1.imm b o x hx) ?_ ?_ ?_ ?_ ?_ ?_ e1.tape e1.os e1.output ?_ ?_
  · intro j _ hc; exact ⟨if_neg hc, if_neg hc, if_neg hc, if_neg hc⟩
  · intro j a b; have := hf.1; omega
  · intro b o x hx
    rcases e1.I_new b o x hx with a | a | a
    · exact .inl a
    · exact .inr (.inl a)
    · exact absurd a (himg b)
  · intro j hj hc hfm; rw [hres j hj hc] at hfm; cases hfm
  · intro j hj hc hk; exact absurd (hres j hj hc) hk
  · intro j hj hc hw hw' e; rw [hres j hj hc] at e; cases e
  · intro j _ hc hl
    refine .inl ?_
    have em : (impG g g1 nid k).mu j = g1.mu (j - nid) := if_pos hc
    have eg : impGet get get1 nid k j = (get1 (j - nid)).shift nid := if_pos hc
    rw [em]
    rw [eg] at hl
    rcases Nat.lt_or_ge (g1.mu (j - nid)) w.heap.size with hh | hh
    · exact absurd (e1.back _ hh ⟨j - nid, by omega, shift_live hl, rfl⟩) (himg _)
    · exact hh
  · intro j j' _ _ hc hc' hl hl' hm
    have em : (impG g g1 nid k).mu j = g1.mu (j - nid) := if_pos hc
    have eg : impGet get get1 nid k j = (get1 (j - nid)).shift nid := if_pos hc
    have em' : (impG g g1 nid k).mu j' = g1.mu (j' - nid) := if_pos hc'
    have eg' : impGet get get1 nid k j' = (get1 (j' - nid)).shift nid := if_pos hc'
    rw [eg] at hl; rw [eg'] at hl'; rw [em, em'] at hm
    have := h1.inj (j - nid) (j' - nid) (by omega) (by omega) (shift_live hl) (shift_live hl') hm
    omega
  · intro r m ver left cur hr hc hg hcm es ver' _
    have hbl := h.blk r hr
    rw [hg] at hbl
    obtain ⟨m1, m2, _⟩ := hbl
    rw [hres m m1 hcm] at m2; cases m2
  · intro e j hj hc
    have em : (impG g g1 nid k).mu j = g1.mu (j - nid) := if_pos hc
    have eb : (impG g g1 nid k).base j = g1.base (j - nid) := if_pos hc
    have et : (impG g g1 nid k).ts j = g1.ts (j - nid) := if_pos hc
    have eg : impGet get get1 nid k j = (get1 (j - nid)).shift nid := if_pos hc
    have hb := h1.blk (j - nid) (by omega)
    rw [eg]
    have hat := imp_at (g := g) (g1 := g1) (get := get) (get1 := get1) (n := n) (nid := nid) (k := k)
    cases hg : get1 (j - nid) with
    | row q cs =>
      rw [hg] at hb
      obtain ⟨c, el, a1, a2, a3, a4, a5⟩ := hb
      refine ⟨c, el, by rw [em]; exact a1, by rw [et]; exact a2, by rw [eb, shifts_len]; exact a3, fun i v hv => ?_, fun o ho => by rw [em]; rw [eb] at ho; exact a5 o ho⟩
      rw [shifts_get] at hv
      cases hu : cs[i]? with
      | none => rw [hu] at hv; cases hv
      | some u =>
        rw [hu] at hv
        obtain rfl := Option.some.inj hv
        obtain ⟨x, hx, hxv⟩ := a4 i u hu
        exact ⟨x, by rw [eb]; exact hx, vr_shift hat hxv⟩
    | tok hw =>
      rw [hg] at hb
      obtain ⟨c, el, a1, a2, a3, a5⟩ := hb
      exact ⟨c, el, by rw [em]; exact a1, by rw [et]; exact a2, by rw [eb]; exact a3, fun o ho => by rw [em]; rw [eb] at ho; exact a5 o ho⟩
    | map es ver =>
      rw [hg] at hb
      obtain ⟨ents, clock, a1, a2, a3⟩ := hb
      exact ⟨ents, clock, by rw [em]; exact a1, entsR_shift hat a2, a3⟩
    | _ => trivial
  · intro j hj hc es ver e; rw [hres j hj hc] at e; cases e

end Go.Ae

/- The abstract evaluator: the blocks of a call are dropped. -/
namespace Go.Ae
variable {P : Program}

/-- All cells of new blocks stay as they are, but for some. -/
noncomputable def dropI (g1 : G) (w w1 : World) (ex : Nat → Nat → Prop) : Imm := fun b o =>
  match g1.I b o with
  | some x => some x
  | none => open Classical in if w.heap.size ≤ b ∧ ¬ ex b o then w1.cell? ⟨b, o, none⟩ else none

section
variable {g g1 : G} {get get0 get1 : Nat → Blk} {n k : Nat} {w w1 : World}

theorem dropI_le (ex : Nat → Nat → Prop) : g1.I.le (dropI g1 w w1 ex) := fun b o x hx => by
  unfold dropI; rw [hx]

theorem dropI_cases {ex : Nat → Nat → Prop} {b o : Nat} {x : Value} (h : dropI g1 w w1 ex b o = some x) : g1.I b o = some x ∨ (w.heap.size ≤ b ∧ ¬ ex b o ∧ w1.cell? ⟨b, o, none⟩ = some x) := by
  unfold dropI at h
  split at h
  · rename_i y hy; rw [hy]; exact .inl h
  · split at h
    · rename_i hc; exact .inr ⟨hc.1, hc.2, h⟩
    · cases h

theorem dropI_new (h1 : WR g1 get1 k w1) {ex : Nat → Nat → Prop} {b o : Nat} {x : Value} (hb : w.heap.size ≤ b) (he : ¬ ex b o) (hx : w1.cell? ⟨b, o, none⟩ = some x) : dropI g1 w w1 ex b o = some x := by
  unfold dropI
  split
  · rename_i y hy
    have := h1.imm b o y hy
    rw [hx] at this
    rw [this]
  · rw [if_pos ⟨hb, he⟩]; exact hx

theorem mapO_get {f : V → Option V} : ∀ {l l' : List V}, mapO f l = some l' → l'.length = l.length ∧ ∀ (i : Nat) (v' : V), l'[i]? = some v' → ∃ v, l[i]? = some v ∧ f v = some v'
  | [], l', h => by simp [mapO] at h; subst h; simp
  | v :: l, l', h => by
    simp only [mapO] at h
    cases h1 : f v with
    | none => simp [h1] at h
    | some u =>
      cases h2 : mapO f l with
      | none => simp [h1, h2] at h
      | some us =>
        simp [h1, h2] at h; subst h
        obtain ⟨q1, q2⟩ := mapO_get h2
        refine ⟨by simp [q1], fun i v' hv => ?_⟩
        cases i with
        | zero => simp at hv; subst hv; exact ⟨v, rfl, h1⟩
        | succ i => simp at hv; simpa using q2 i v' hv

/-- What the cells of rows are worth behind a call that began with no blocks. -/
theorem freeze_sound (h1 : WR g1 get1 k w1) (e1 : Ext g get0 0 w g1 get1 k w1) {ex : Nat → Nat → Prop} (hex : ∀ r, r < k → ∀ q cs, get1 r = .row q cs → ∀ o, ¬ ex (g1.mu r) o) {hh : H} (hhg : ∀ j, hh.get j = get1 j) :
    ∀ (m : Nat) {v v' : V} {x : Value}, freeze hh m v = some v' → vr g1.I (g1.at get1 k) v x → vr (dropI g1 w w1 ex) At.bot v' x := by
  have himg : ∀ b, ¬ g.img get0 0 b := fun b ⟨r, hr, _⟩ => by omega
  intro m
  induction m with
  | zero => intro v v' x h; cases h
  | succ m ih =>
    intro v v' x h hv
    have hlist : ∀ {l l' : List V} {xs : List Value}, mapO (freeze hh m) l = some l' → vrl g1.I (g1.at get1 k) l xs → vrl (dropI g1 w w1 ex) At.bot l' xs := by
      intro l l' xs hm hl
      obtain ⟨q1, q2⟩ := mapO_get hm
      refine vrl_of_get (by rw [vrl_len hl, q1]) fun i u' hu => ?_
      obtain ⟨u, hu1, hu2⟩ := q2 i u' hu
      obtain ⟨y, hy, hyv⟩ := vrl_get hl hu1
      exact ⟨y, hy, ih hu2 hyv⟩
    have hpure : ∀ {u : V}, (if u.pure then some u else none) = some v' → u = v → vr (dropI g1 w w1 ex) At.bot v' x := by
      intro u hu huv
      subst huv
      split at hu
      · rename_i hp
        obtain rfl := Option.some.inj hu
        exact vr_mono (dropI_le ex) (At.le_refl _) (vr_pure hp hv)
      · cases hu
    unfold freeze at h
    split at h
    · -- a row's slice
      rename_i r off len cap sz exx
      simp only [vr] at hv
      obtain ⟨a, c, rfl, hr, hfm, rfl, hlc, hcc, hexx, hts⟩ := hv
      split at h
      · rename_i q cs hgr
        have hgr' : get1 r = .row q cs := by rw [← hhg]; exact hgr
        split at h
        · rename_i hle
          cases hm : mapO (freeze hh m) ((cs.drop off).take (len * sz)) with
          | none => simp [hm] at h
          | some cs' =>
            simp only [hm] at h
            obtain rfl := Option.some.inj h
            obtain ⟨cc, el, xs, a1, a2, a3, a4, a5, a6, a7⟩ := row_vals h1 hr hgr'
            have hmu : w.heap.size ≤ g1.mu r := by
              rcases Nat.lt_or_ge (g1.mu r) w.heap.size with q1 | q1
              · exact absurd (e1.back _ q1 ⟨r, hr, by rw [hgr']; rfl, rfl⟩) (himg _)
              · exact q1
            have hl := hlist hm (vrl_take (vrl_drop a4 off) (len * sz))
            have hhd := (a6.drop off).take (len * sz)
            have hlen : cs'.length = len * sz := by
              rw [(mapO_get hm).1, List.length_take, List.length_drop]; omega
            simp only [vr]
            refine ⟨g1.mu r, g1.base r + off, c, rfl, by omega, hlen, vra_of_vals hl fun i y hy => dropI_new h1 hmu (hex r hr q cs hgr' _) (hhd i y hy), ?_⟩
            split
            · rename_i hcond
              rw [Bool.and_eq_true, beq_iff_eq] at hcond
              have := hexx hcond.1
              show c = len
              omega
            · trivial
        · cases h
      · cases h
    · rename_i cs len sz r e
      obtain rfl := Option.some.inj h
      have := vr_seal hv
      simp only [V.shut] at this
      exact vr_mono (dropI_le ex) (At.le_refl _) (vr_pure rfl this)
    · rename_i cs
      cases hm : mapO (freeze hh m) cs with
      | none => simp [hm] at h
      | some cs' =>
        simp [hm] at h; subst h
        simp only [vr] at hv ⊢
        obtain ⟨ys, e, hl⟩ := hv
        exact ⟨ys, e, hlist hm hl⟩
    · rename_i cs
      cases hm : mapO (freeze hh m) cs with
      | none => simp [hm] at h
      | some cs' =>
        simp [hm] at h; subst h
        simp only [vr] at hv ⊢
        obtain ⟨ys, e, hl⟩ := hv
        exact ⟨ys, e, hlist hm hl⟩
    · exact hpure h rfl

/-- The blocks are dropped. -/
theorem drop_sound (h : WR g get n w) (h1 : WR g1 get1 k w1) (e1 : Ext g get0 0 w g1 get1 k w1) (ex : Nat → Nat → Prop) :
    WR (g.withI (dropI g1 w w1 ex)) get n w1 ∧ Ext g get n w (g.withI (dropI g1 w w1 ex)) get n w1 := by
  have himg : ∀ b, ¬ g.img get0 0 b := fun b ⟨r, hr, _⟩ => by omega
  refine WR.go (fun _ => False) (fun _ => False) h (Nat.le_refl _) ?_ ?_ e1.size (fun b hb _ => e1.frame b hb (himg b)) (fun _ _ hd => hd.elim) (Imm.le_trans e1.I_le (dropI_le ex)) ?_ ?_ ?_ ?_ ?_ ?_ ?_ ?_ e1.tape e1.os e1.output ?_ ?_
  · intro r _ _; exact ⟨rfl, rfl, rfl, rfl⟩
  · intro r a b; omega
  · intro b o x hx
    rcases dropI_cases hx with a | ⟨a, _⟩
    · rcases e1.I_new b o x a with q | q | q
      · exact .inl q
      · exact .inr (.inl q)
      · exact absurd q (himg b)
    · exact .inr (.inl a)
  · intro b o x hx _
    rcases dropI_cases hx with a | ⟨_, _, a⟩
    · exact h1.imm b o x a
    · exact a
  all_goals first
    | (intro r _ hc; exact hc.elim)
    | (intro r r' _ _ hc; exact hc.elim)
    | (intro r m ver left cur _ _ _ hc; exact hc.elim)
    | (intro _ r _ hc; exact hc.elim)

/-- The same, but for a right to append. -/
theorem drop_tok (h : WR g get n w) (h1 : WR g1 get1 k w1) (e1 : Ext g get0 0 w g1 get1 k w1) {r hw : Nat} (hr : r < k) (hg : get1 r = .tok hw) {nid : Nat} (hf : Fresh get n nid) :
    WR ((g.withI (dropI g1 w w1 fun b o => b = g1.mu r ∧ g1.base r ≤ o)).put nid (g1.mu r) (g1.base r) (g1.ts r)) (upd get nid (.tok hw)) (max n (nid + 1)) w1 ∧
    Ext g get n w ((g.withI (dropI g1 w w1 fun b o => b = g1.mu r ∧ g1.base r ≤ o)).put nid (g1.mu r) (g1.base r) (g1.ts r)) (upd get nid (.tok hw)) (max n (nid + 1)) w1 := by
  have himg : ∀ b, ¬ g.img get0 0 b := fun b ⟨r, hr, _⟩ => by omega
  have hres : ∀ j, j < n → j = nid → get j = .resv := fun j hj e => by subst e; exact hf.2 hj
  have hmu : w.heap.size ≤ g1.mu r := by
    rcases Nat.lt_or_ge (g1.mu r) w.heap.size with q1 | q1
    · exact absurd (e1.back _ q1 ⟨r, hr, by rw [hg]; rfl, rfl⟩) (himg _)
    · exact q1
  have hb := h1.blk r hr
  rw [hg] at hb
  obtain ⟨c, el, a1, a2, a3, a5⟩ := hb
  refine WR.go (fun j => j = nid) (fun _ => False) h (Nat.le_max_left _ _) ?_ ?_ e1.size (fun b hb _ => e1.frame b hb (himg b)) (fun _ _ hd => hd.elim) (Imm.le_trans e1.I_le (dropI_le _)) ?_ ?_ ?_ ?_ ?_ ?_ ?_ ?_ e1.tape e1.os e1.output ?_ ?_
  · intro j _ hc; exact ⟨upd_ne _ _ hc, if_neg hc, if_neg hc, if_neg hc⟩
  · intro j a b; have := hf.1; omega
  · intro b o x hx
    have hx : dropI g1 w w1 (fun b o => b = g1.mu r ∧ g1.base r ≤ o) b o = some x := hx
    rcases dropI_cases hx with a | ⟨a, _⟩
    · rcases e1.I_new b o x a with q | q | q
      · exact .inl q
      · exact .inr (.inl q)
      · exact absurd q (himg b)
    · exact .inr (.inl a)
  · intro b o x hx _
    have hx : dropI g1 w w1 (fun b o => b = g1.mu r ∧ g1.base r ≤ o) b o = some x := hx
    rcases dropI_cases hx with a | ⟨_, _, a⟩
    · exact h1.imm b o x a
    · exact a
  · intro j hj hc hfm; rw [hres j hj hc] at hfm; cases hfm
  · intro j hj hc hk; exact absurd (hres j hj hc) hk
  · intro j hj hc hw hw' e; rw [hres j hj hc] at e; cases e
  · intro j _ hc _; subst hc; exact .inl (by simpa [G.put] using hmu)
  · intro j j' _ _ hc hc' _ _ _; rw [hc, hc']
  · intro j m ver left cur _ _ _ hcm es ver' he; subst hcm; rw [upd_same] at he; cases he
  · intro e j _ hc
    subst hc
    rw [upd_same]
    have hm1 : ((g.withI (dropI g1 w w1 fun b o => b = g1.mu r ∧ g1.base r ≤ o)).put j (g1.mu r) (g1.base r) (g1.ts r)).mu j = g1.mu r := if_pos rfl
    refine ⟨c, el, by rw [hm1]; exact a1, by simpa [G.put] using a2, by simpa [G.put] using a3, fun o ho => ?_⟩
    have ho' : g1.base r ≤ o := by simpa [G.put] using ho
    rw [hm1]
    show dropI g1 w w1 (fun b o => b = g1.mu r ∧ g1.base r ≤ o) (g1.mu r) o = none
    cases hx : dropI g1 w w1 (fun b o => b = g1.mu r ∧ g1.base r ≤ o) (g1.mu r) o with
    | none => rfl
    | some x =>
      rcases dropI_cases hx with a | ⟨_, a, _⟩
      · rw [a5 o ho'] at a; cases a
      · exact absurd ⟨rfl, ho'⟩ a
  · intro j hj hc es ver e; rw [hres j hj hc] at e; cases e

end
end Go.Ae

/- The abstract evaluator: what a call that began with no blocks leaves to its caller. -/
namespace Go.Ae
variable {P : Program}

def R.v : R → V
  | .ret v | .pan v => v
def R.isPan : R → Bool
  | .ret _ => false
  | .pan _ => true

/-- An effect, and where the machine has come. -/
def Lands (g : G) (get : Nat → Blk) (n : Nat) (w : World) (nid : Nat) (e : Eff) (x : Value) (w' : World) : Prop :=
  ∃ g', WR g' (e.upd get nid) (e.top n nid) w' ∧ Ext g get n w g' (e.upd get nid) (e.top n nid) w' ∧ vr g'.I (g'.at (e.upd get nid) (e.top n nid)) e.v x

theorem updN_get : ∀ (l : List Blk) (get : Nat → Blk) (nid j : Nat), updN get nid l j = if nid ≤ j ∧ j < nid + l.length then l.getD (j - nid) .gone else get j
  | [], get, nid, j => by
    rw [if_neg (by simp only [List.length_nil]; omega)]; rfl
  | b :: l, get, nid, j => by
    show updN (upd get nid b) (nid + 1) l j = _
    rw [updN_get l]
    by_cases h1 : nid + 1 ≤ j ∧ j < nid + 1 + l.length
    · rw [if_pos h1, if_pos (by simp only [List.length_cons]; omega)]
      rw [show j - nid = (j - (nid + 1)) + 1 by omega, List.getD_cons_succ]
    · rw [if_neg h1]
      by_cases h2 : j = nid
      · subst h2
        rw [if_pos (by simp only [List.length_cons]; omega), upd_same, Nat.sub_self, List.getD_cons_zero]
      · rw [if_neg (by simp only [List.length_cons]; omega), upd_ne _ _ h2]

theorem blksOf_len (h : H) (n : Nat) : ∀ k i, (blksOf h n k i).length = k
  | 0, _ => rfl
  | k + 1, i => by simp only [blksOf, List.length_cons, blksOf_len h n k (i + 1)]

theorem blksOf_get (h : H) (n : Nat) : ∀ k i j, j < k → (blksOf h n k i).getD j .gone = (h.get (i + j)).shift n
  | 0, _, _, hj => by omega
  | k + 1, i, 0, _ => rfl
  | k + 1, i, j + 1, hj => by
    show (blksOf h n k (i + 1)).getD j .gone = _
    rw [blksOf_get h n k (i + 1) j (by omega), show i + 1 + j = i + (j + 1) by omega]

section
variable {g g1 : G} {get get0 : Nat → Blk} {n : Nat} {w w1 : World} {h1 : H}

theorem imp_eff (hW : WR g get n w) (hW1 : WR g1 h1.get h1.n w1) (e1 : Ext g get0 0 w g1 h1.get h1.n w1) {v : V} {x : Value} (hv : vr g1.I (g1.at h1.get h1.n) v x) {nid : Nat} (hf : FreshN get n nid h1.n) :
    Lands g get n w nid { v := v.shift nid, nw := blksOf h1 nid h1.n 0 } x w1 := by
  obtain ⟨k1, k2⟩ := imp_sound hW hW1 e1 hf
  have hg : Eff.upd { v := v.shift nid, nw := blksOf h1 nid h1.n 0 } get nid = impGet get h1.get nid h1.n := by
    funext j
    show updN get nid (blksOf h1 nid h1.n 0) j = _
    rw [updN_get, blksOf_len]
    unfold impGet
    by_cases hc : nid ≤ j ∧ j < nid + h1.n
    · rw [if_pos hc, if_pos hc, blksOf_get _ _ _ _ _ (by omega), Nat.zero_add]
    · rw [if_neg hc, if_neg hc]
  have ht : Eff.top { v := v.shift nid, nw := blksOf h1 nid h1.n 0 } n nid = max n (nid + h1.n) := by
    unfold Eff.top
    cases hk : h1.n with
    | zero => have := hf.1; show n = _; omega
    | succ k => show max n (nid + (blksOf h1 nid (k + 1) 0).length) = _; rw [blksOf_len]
  refine ⟨impG g g1 nid h1.n, ?_, ?_, ?_⟩
  · rw [hg, ht]; exact k1
  · rw [hg, ht]; exact k2
  · rw [hg, ht]; exact vr_shift imp_at hv

/-- What is frozen. -/
theorem freeze_eff {p : Bool} (hW : WR g get n w) (hW1 : WR g1 h1.get h1.n w1) (e1 : Ext g get0 0 w g1 h1.get h1.n w1) {v v' : V} {x : Value} (hv : vr g1.I (g1.at h1.get h1.n) v x) {m : Nat} (hfz : freeze h1 m v = some v') {nid : Nat} :
    Lands g get n w nid { v := v', pan := p } x w1 := by
  obtain ⟨k1, k2⟩ := drop_sound hW hW1 e1 (fun _ _ => False)
  exact ⟨_, k1, k2, vr_mono (Imm.le_refl _) (At.bot_le _) (freeze_sound hW1 e1 (fun _ _ _ _ _ _ hc => hc) (fun _ => rfl) m hfz hv)⟩

/-- The right to append goes along. -/
theorem tok_vr {cs : List V} {len sz r e : Nat} {x : Value} (hv : vr g1.I (g1.at h1.get h1.n) (.vs cs len sz (.tok r e)) x)
    (hr : h1.get r = .tok e) {nid : Nat} :
    vr ((g.withI (dropI g1 w w1 fun b o => b = g1.mu r ∧ g1.base r ≤ o)).put nid (g1.mu r) (g1.base r) (g1.ts r)).I
      (((g.withI (dropI g1 w w1 fun b o => b = g1.mu r ∧ g1.base r ≤ o)).put nid (g1.mu r) (g1.base r) (g1.ts r)).at (upd get nid (.tok e)) (max n (nid + 1))) (.vs cs len sz (.tok nid e)) x := by
  simp only [vr] at hv ⊢
  obtain ⟨b, o, cap, rfl, q1, q2, q3, q4⟩ := hv
  obtain ⟨_, _, q5⟩ := q4
  obtain ⟨_, q6⟩ := q5 e hr
  obtain ⟨q7, q8, q9⟩ := q6 rfl
  refine ⟨b, o, cap, rfl, q1, q2, vra_mono (dropI_le _) q3, ?_⟩
  refine ⟨by omega, by rw [upd_same]; simp, fun hw hh => ?_⟩
  rw [upd_same] at hh
  obtain rfl := Blk.tok.inj hh
  refine ⟨Nat.le_refl _, fun _ => ⟨?_, ?_, ?_⟩⟩
  · show b = if nid = nid then _ else _; rw [if_pos rfl]; exact q7
  · show _ = if nid = nid then _ else _; rw [if_pos rfl]; exact q8
  · show _ ≤ if nid = nid then _ else _; rw [if_pos rfl]; exact q9

theorem tok_lt {cs : List V} {len sz r e : Nat} {x : Value} (hv : vr g1.I (g1.at h1.get h1.n) (.vs cs len sz (.tok r e)) x) : r < h1.n := by
  simp only [vr] at hv
  obtain ⟨b, o, cap, rfl, q1, q2, q3, q4⟩ := hv
  exact q4.1

theorem tok_ex (hW1 : WR g1 h1.get h1.n w1) {r e : Nat} (hlt : r < h1.n) (hr : h1.get r = .tok e) : ∀ r', r' < h1.n → ∀ q cs, h1.get r' = .row q cs → ∀ o, ¬ (g1.mu r' = g1.mu r ∧ g1.base r ≤ o) := by
  intro r' hr' q cs hg o hc
  have := hW1.inj r' r hr' hlt (by rw [hg]; rfl) (by rw [hr]; rfl) hc.1
  subst this
  rw [hr] at hg; cases hg

theorem lock_vr {I : Imm} {A : At} {cs : List V} {len sz r e : Nat} {x : Value} (hv : vr I A (.vs cs len sz (.tok r e)) x) : vr I At.bot (.vs cs len sz .lock) x := by
  have := vr_seal hv
  simp only [V.shut] at this
  exact vr_pure rfl this

theorem frz_list (hW1 : WR g1 h1.get h1.n w1) (e1 : Ext g get0 0 w g1 h1.get h1.n w1) {ex : Nat → Nat → Prop} (hex : ∀ r, r < h1.n → ∀ q cs, h1.get r = .row q cs → ∀ o, ¬ ex (g1.mu r) o) {m : Nat} {l l' : List V} {xs : List Value} (hm : mapO (freeze h1 m) l = some l') (hl : vrl g1.I (g1.at h1.get h1.n) l xs) : vrl (dropI g1 w w1 ex) At.bot l' xs := by
  obtain ⟨q1, q2⟩ := mapO_get hm
  refine vrl_of_get (by rw [vrl_len hl, q1]) fun i u' hu => ?_
  obtain ⟨u, hu1, hu2⟩ := q2 i u' hu
  obtain ⟨y, hy, hyv⟩ := vrl_get hl hu1
  exact ⟨y, hy, freeze_sound hW1 e1 hex (fun _ => rfl) m hu2 hyv⟩

/-- The numbers that an effect wants. -/
theorem FreshN.fresh {k : Nat} {nid : Nat} (h : FreshN get n nid (k + 1)) : Fresh get n nid := ⟨h.1, fun hh => h.2 nid (Nat.le_refl _) (by omega) hh⟩

theorem retok_eff (hW : WR g get n w) (hW1 : WR g1 h1.get h1.n w1) (e1 : Ext g get0 0 w g1 h1.get h1.n w1) {v : V} {x : Value} (hv : vr g1.I (g1.at h1.get h1.n) v x) {nid : Nat} {e : Eff} (he : retok nid h1 v = some e) (hf : FreshN get n nid e.nw.length) :
    Lands g get n w nid e x w1 := by
  have hdrop := drop_sound hW hW1 e1 (fun _ _ => False)
  have hno : ∀ r, r < h1.n → ∀ q cs, h1.get r = .row q cs → ∀ o, ¬ (fun _ _ => False : Nat → Nat → Prop) (g1.mu r) o := fun _ _ _ _ _ _ hc => hc
  have hlock : ∀ {cs : List V} {len sz r k : Nat}, v = .vs cs len sz (.tok r k) → Lands g get n w nid { v := .vs cs len sz .lock } x w1 := by
    intro cs len sz r k hvv
    subst hvv
    exact ⟨_, hdrop.1, hdrop.2, vr_mono (dropI_le _) (At.bot_le _) (lock_vr hv)⟩
  have hlock2 : ∀ {cs : List V} {len sz r k : Nat} {vs vs' : List V}, v = .tup (.vs cs len sz (.tok r k) :: vs) → mapO (freeze h1 60) vs = some vs' → Lands g get n w nid { v := .tup (.vs cs len sz .lock :: vs') } x w1 := by
    intro cs len sz r k vs vs' hvv hm
    subst hvv
    refine ⟨_, hdrop.1, hdrop.2, ?_⟩
    rw [vr] at hv
    obtain ⟨ys, rfl, hl⟩ := hv
    rw [vrl] at hl
    obtain ⟨y, ys', q1, q2, q3⟩ := hl
    rw [vr]
    refine ⟨ys, rfl, ?_⟩
    rw [vrl]
    exact ⟨y, ys', q1, vr_mono (dropI_le _) (At.bot_le _) (lock_vr q2), vrl_mono (Imm.le_refl _) (At.bot_le _) (frz_list hW1 e1 hno hm q3)⟩
  unfold retok at he
  split at he
  · rename_i cs len sz r k
    split at he
    · rename_i hw hg
      split at he
      · rename_i hk
        subst hk
        obtain rfl := Option.some.inj he
        obtain ⟨k1, k2⟩ := drop_tok hW hW1 e1 (tok_lt hv) hg (FreshN.fresh (k := 0) hf)
        exact ⟨_, k1, k2, tok_vr hv hg⟩
      · obtain rfl := Option.some.inj he; exact hlock rfl
    · obtain rfl := Option.some.inj he; exact hlock rfl
  · rename_i cs len sz r k vs
    split at he
    · rename_i vs' hm
      split at he
      · rename_i hw hg
        split at he
        · rename_i hk
          subst hk
          obtain rfl := Option.some.inj he
          rw [vr] at hv
          obtain ⟨ys, rfl, hl⟩ := hv
          rw [vrl] at hl
          obtain ⟨y, ys', q1, q2, q3⟩ := hl
          obtain ⟨k1, k2⟩ := drop_tok hW hW1 e1 (tok_lt q2) hg (FreshN.fresh (k := 0) hf)
          refine ⟨_, k1, k2, ?_⟩
          rw [vr]
          refine ⟨ys, rfl, ?_⟩
          rw [vrl]
          exact ⟨y, ys', q1, tok_vr q2 hg, vrl_mono (Imm.le_refl _) (At.bot_le _) (frz_list hW1 e1 (tok_ex hW1 (tok_lt q2) hg) hm q3)⟩
        · obtain rfl := Option.some.inj he; exact hlock2 rfl hm
      · obtain rfl := Option.some.inj he; exact hlock2 rfl hm
    · cases he
  · split at he
    · rename_i v' hfz
      obtain rfl := Option.some.inj he
      exact freeze_eff hW hW1 e1 hv hfz
    · cases he

/-- What leaves a call. -/
theorem leave_eff {hint : Hint} (hW : WR g get n w) (hW1 : WR g1 h1.get h1.n w1) (e1 : Ext g get0 0 w g1 h1.get h1.n w1) {r : R} {x : Value} (hv : vr g1.I (g1.at h1.get h1.n) r.v x) {f : FuncId} {nid : Nat} {e : Eff} (he : leaveE hint f nid (r, h1) = some e)
    (hf : FreshN get n nid e.nw.length) : Lands g get n w nid e x w1 ∧ e.pan = r.isPan := by
  have hrp : ∀ {v : V} {e : Eff}, retok nid h1 v = some e → e.pan = false := by
    intro v e he
    unfold retok at he
    split at he
    · split at he
      · split at he
        · obtain rfl := Option.some.inj he; rfl
        · obtain rfl := Option.some.inj he; rfl
      · obtain rfl := Option.some.inj he; rfl
    · split at he
      · split at he
        · split at he
          · obtain rfl := Option.some.inj he; rfl
          · obtain rfl := Option.some.inj he; rfl
        · obtain rfl := Option.some.inj he; rfl
      · cases he
    · split at he
      · obtain rfl := Option.some.inj he; rfl
      · cases he
  cases r with
  | pan v =>
    unfold leaveE at he
    simp only at he
    split at he
    · rename_i v' hfz
      obtain rfl := Option.some.inj he
      exact ⟨freeze_eff hW hW1 e1 hv hfz, rfl⟩
    · cases he
  | ret v =>
  have hv : vr g1.I (g1.at h1.get h1.n) v x := hv
  have himp : some { v := v.shift nid, nw := blksOf h1 nid h1.n 0 } = some e → Lands g get n w nid e x w1 ∧ e.pan = (R.ret v).isPan := by
    intro hh
    obtain rfl := Option.some.inj hh
    refine ⟨imp_eff hW hW1 e1 hv ⟨hf.1, fun j a b c => hf.2 j a ?_ c⟩, rfl⟩
    show j < nid + (blksOf h1 nid h1.n 0).length
    rw [blksOf_len]; exact b
  unfold leaveE at he
  simp only at he
  split at he
  · exact himp he
  · split at he
    · rename_i e' hr
      obtain rfl := Option.some.inj he
      exact ⟨retok_eff hW hW1 e1 hv hr hf, hrp hr⟩
    · exact himp he

end
end Go.Ae

/- The abstract evaluator: what is asked of calls; calls whose arguments refer to no block. -/
namespace Go.Ae
variable {P : Program}

mutual
theorem V.beq_eq : ∀ {a b : V}, V.beq a b = true → a = b
  | .bool _, .bool _, h => by simp [V.beq] at h; rw [h]
  | .int _ _, .int _ _, h => by simp [V.beq] at h; rw [h.1, h.2]
  | .str a, .str b, h => by
    simp only [V.beq, decide_eq_true_eq] at h
    have : a = b := by
      cases a with | mk da => cases b with | mk db =>
        have : da = db := Array.toList_inj.1 h
        rw [this]
    rw [this]
  | .nilp, .nilp, _ => rfl
  | .nils, .nils, _ => rfl
  | .nilm, .nilm, _ => rfl
  | .nilf, .nilf, _ => rfl
  | .nilif, .nilif, _ => rfl
  | .ptr _ _, .ptr _ _, h => by simp [V.beq] at h; rw [h.1, h.2]
  | .iptr _, .iptr _, h => by simp only [V.beq] at h; rw [V.beqs_eq h]
  | .vs _ _ _ o, .vs _ _ _ o', h => by
    simp only [V.beq, Bool.and_eq_true] at h
    obtain ⟨⟨⟨h1, h2⟩, h3⟩, h4⟩ := h
    have ho : o = o' := by
      cases o <;> cases o' <;> first | rfl | (simp at h3; done) | skip
      simp at h3; rw [h3.1, h3.2]
    rw [Nat.eq_of_beq_eq_true h1, Nat.eq_of_beq_eq_true h2, ho, V.beqs_eq h4]
  | .hs _ _ _ _ _ _, .hs _ _ _ _ _ _, h => by
    simp [V.beq] at h
    obtain ⟨⟨⟨⟨⟨h1, h2⟩, h3⟩, h4⟩, h5⟩, h6⟩ := h
    rw [h1, h2, h3, h4, h5, h6]
  | .map _, .map _, h => by simp [V.beq] at h; rw [h]
  | .fn (.func _) _ _, .fn (.func _) _ _, h => by
    simp only [V.beq, Bool.and_eq_true] at h
    rw [Nat.eq_of_beq_eq_true h.1.1, V.beqs_eq h.1.2, V.beqs_eq h.2]
  | .iface _ _, .iface _ _, h => by
    simp only [V.beq, Bool.and_eq_true] at h
    rw [Nat.eq_of_beq_eq_true h.1, V.beq_eq h.2]
  | .agg _, .agg _, h => by simp only [V.beq] at h; rw [V.beqs_eq h]
  | .tup _, .tup _, h => by simp only [V.beq] at h; rw [V.beqs_eq h]
theorem V.beqs_eq : ∀ {a b : List V}, V.beqs a b = true → a = b
  | [], [], _ => rfl
  | _ :: _, _ :: _, h => by
    simp only [V.beqs, Bool.and_eq_true] at h
    rw [V.beq_eq h.1, V.beqs_eq h.2]
end

theorem Eff.same_eq {a b : Eff} (h : Eff.same a b = true) : a = b := by
  obtain ⟨v, r, w, n, p⟩ := a
  obtain ⟨v', r', w', n', p'⟩ := b
  simp only [Eff.same, Bool.and_eq_true] at h
  obtain ⟨⟨⟨⟨h1, h2⟩, h3⟩, h4⟩, h5⟩ := h
  have e5 : p = p' := by simpa using h5
  have e1 := V.beq_eq h1
  have e2 : r = r' := by cases r <;> cases r' <;> first | rfl | cases h2
  have e3 : w = w' := by cases w <;> cases w' <;> first | rfl | cases h3
  have e4 : n = n' := by
    split at h4
    · rfl
    · rw [Nat.eq_of_beq_eq_true h4]
    · cases h4
  rw [e1, e2, e3, e4, e5]

theorem oneOf_mem : ∀ {es : List Eff} {e : Eff}, e ∈ es → e ∈ oneOf es
  | [], _, h => h
  | [_], _, h => h
  | a :: b :: l, e, h => by
    simp only [oneOf]
    split
    · rename_i hall
      rcases List.mem_cons.1 h with rfl | hm
      · exact List.mem_singleton.2 rfl
      · rw [← Eff.same_eq (List.all_eq_true.1 hall e hm)]; exact List.mem_singleton.2 rfl
    · exact h

theorem allO_mem {α β : Type} {f : α → Option β} : ∀ {l : List α} {l' : List β}, allO f l = some l' → ∀ x ∈ l, ∃ y ∈ l', f x = some y
  | [], _, _, x, hx => by cases hx
  | a :: l, l', h, x, hx => by
    simp only [allO] at h
    cases h1 : f a with
    | none => simp [h1] at h
    | some b =>
      cases h2 : allO f l with
      | none => simp [h1, h2] at h
      | some bs =>
        simp [h1, h2] at h
        subst h
        rcases List.mem_cons.1 hx with rfl | hm
        · exact ⟨b, List.mem_cons_self, h1⟩
        · obtain ⟨y, hy, hf⟩ := allO_mem h2 x hm
          exact ⟨y, List.mem_cons_of_mem _ hy, hf⟩

/-- How a call ends. -/
def endR (pan : Bool) (x : Value) (e : Ending) : Prop := e = if pan then .panicked [{ v := x, recovered := false }] else .returned x

/-- What is asked of a call. -/
def CallOk (P : Program) (f : FuncId) (args : List V) (h : H) (outs : List (R × H)) : Prop :=
  ∀ (g : G) (xs : Array Value) (w : World), h.wf → WR g h.get h.n w → vrl g.I (g.at h.get h.n) args xs.toList →
    CallsIn Fence.wide 0 P f xs w fun e w' => ∃ x, ∃ r ∈ outs, endR r.1.isPan x e ∧ ∃ g', r.2.wf ∧ WR g' r.2.get r.2.n w' ∧ Ext g h.get h.n w g' r.2.get r.2.n w' ∧ vr g'.I (g'.at r.2.get r.2.n) r.1.v x

/-- What is asked of what is known otherwise. -/
def KnownOk (P : Program) (known : Known) : Prop :=
  ∀ (f : FuncId) (args : List V) (v : V), known.call f args = some v → CallOk P f args H.empty [(.ret v, H.empty)] ∧ v.pure = true

theorem WR.none {g : G} {get get0 : Nat → Blk} {n : Nat} {w : World} (h : WR g get n w) : WR g get0 0 w where
  imm := h.imm
  blk r hr := by omega
  inj r r' hr := by omega

/-- A call whose arguments refer to no block. -/
theorem callP_sound {hint : Hint} {known : Known} {E : Ev} (hK : KnownOk P known) (hE : ∀ f args outs, E.call f args H.empty = some outs → CallOk P f args H.empty outs)
    {f : FuncId} {args : List V} {nid : Nat} {es : List Eff} (hc : callP hint known E f args nid = some es) (hp : V.pures args = true)
    {g : G} {get : Nat → Blk} {n : Nat} {w : World} (hW : WR g get n w) {xs : Array Value} (hx : vrl g.I (g.at get n) args xs.toList) (hf : ∀ e ∈ es, FreshN get n nid e.nw.length) :
    CallsIn Fence.wide 0 P f xs w fun en w' => ∃ x, ∃ e ∈ es, endR e.pan x en ∧ Lands g get n w nid e x w' := by
  have hx0 : vrl g.I (g.at H.empty.get H.empty.n) args xs.toList := vrl_mono (Imm.le_refl _) (At.bot_le _) (vrl_pure hp hx)
  have hW0 : WR g H.empty.get H.empty.n w := hW.none
  unfold callP at hc
  split at hc
  · rename_i v hk
    obtain rfl := Option.some.inj hc
    obtain ⟨k1, k2⟩ := hK f args v hk
    refine (k1 g xs w H.wf_empty hW0 hx0).mono ?_
    rintro en w' ⟨x, r, hr, hen, g', q1, q2, q3, q4⟩
    obtain rfl := List.mem_singleton.1 hr
    refine ⟨x, _, List.mem_singleton.2 rfl, hen, ?_⟩
    obtain ⟨d1, d2⟩ := drop_sound hW q2 q3 (fun _ _ => True)
    exact ⟨_, d1, d2, vr_mono (dropI_le _) (At.bot_le _) (vr_pure k2 q4)⟩
  · split at hc
    · rename_i outs ho
      split at hc
      · rename_i es0 ha
        obtain rfl := Option.some.inj hc
        refine (hE f args outs ho g xs w H.wf_empty hW0 hx0).mono ?_
        rintro en w' ⟨x, r, hr, hen, g', q1, q2, q3, q4⟩
        obtain ⟨e, he, hl⟩ := allO_mem ha r hr
        obtain ⟨l1, l2⟩ := leave_eff hW q2 q3 q4 hl (hf e (oneOf_mem he))
        exact ⟨x, e, oneOf_mem he, by rw [l2]; exact hen, l1⟩
      · cases hc
    · cases hc

end Go.Ae

/- The abstract evaluator: what is called. -/
namespace Go.Ae
variable {P : Program}

/-- A function with a body of its own. -/
def HasBody (P : Program) (f : FuncId) : Prop := ∃ fn, P.funcs[f]? = some fn ∧ (fn.name == "runtime.NumGoroutine") = false ∧ fn.body.isNone = false

theorem run_callFunc_enter {f : FuncId} (hb : HasBody P f) (args : Array Value) (w : World) : (callFunc f args).run P w = .ok (.enter f args) w := by
  obtain ⟨fn, h1, h2, h3⟩ := hb
  unfold callFunc
  simp only [Sem.run_bind, program, Sem.run, h1, Result.andThen, h2, h3]
  rfl

theorem run_method {t : TypeId} {name : String} {f : FuncId} (h : methodOf P t name = some f) (v : Value) (w : World) : (method (P.types.size + Made.depth) t v name).run P w = .ok (f, v) w := by
  have hd : P.types.size + Made.depth = (P.types.size + (Made.depth - 1)) + 1 := by
    have : 0 < Made.depth := by decide
    omega
  unfold methodOf at h
  cases hi : P.info? t with
  | none => simp [hi] at h
  | some i =>
    simp only [hi, Option.bind_some] at h
    cases hm : i.methods.toList.find? (·.name == name) with
    | none => simp [hm] at h
    | some m =>
      simp only [hm] at h
      split at h
      · rename_i f' el hp hfn hund
        obtain rfl := Option.some.inj h
        have hm' : i.methods.find? (·.name == name) = some m := by
          rw [← Array.find?_toList]; exact hm
        have hu : P.underlying t = some (.pointer el) := by
          unfold und at hund
          cases hq : P.underlying t with
          | none => rw [hq] at hund; cases hund
          | some d => rw [hq] at hund; exact congrArg some hund
        rw [hd]
        unfold method
        simp only [Sem.run_bind, typeInfo, program, Sem.run, hi, Result.andThen, Sem.run_pure, hm', hp, follow, hfn]
        unfold receiverAt underlying
        simp only [Sem.run_bind, program, Sem.run, hu, Result.andThen, Sem.run_pure, Place.get]
      · cases h

section
variable {I : Imm} {A : At} {regs : T V} {a : Act} {w : World}

theorem map_toList {c : Call} (hR : RR I A regs a.tmps) {args : List V} (h : rds regs c.args.toList = some args) : vrl I A args (c.args.map a.eval).toList := by
  rw [Array.toList_map]; exact rds_vrl hR h

theorem run_call_value {o : Oper} {c : Call} {y : Operand} (ho : o.op = .call c) (hc : c.callee = .value y) {f : Fn} {first cap : Array Value} (hy : a.eval y = .func f first cap) :
    (execOp a.eval o).run P w = (invoke (.fn f cap) (first ++ c.args.map a.eval)).run P w := by
  unfold execOp
  rw [ho]
  simp only [Sem.run_bind]
  unfold resolve
  rw [hc]
  simp only [hy, Deferred.ofValue]
  rfl

theorem run_call_invoke {o : Oper} {c : Call} {y : Operand} {name : String} (ho : o.op = .call c) (hc : c.callee = .invoke y name) {t : TypeId} {x : Value} (hy : a.eval y = .iface t x) {f : FuncId} (hm : methodOf P t name = some f) :
    (execOp a.eval o).run P w = (callFunc f (#[x] ++ c.args.map a.eval)).run P w := by
  unfold execOp
  rw [ho]
  simp only [Sem.run_bind]
  unfold resolve
  rw [hc]
  simp only [hy]
  show (invoke (.fn (.method name) #[]) (#[Value.iface t x] ++ c.args.map a.eval)).run P w = _
  unfold invoke
  have h0 : (#[Value.iface t x] ++ c.args.map a.eval)[0]? = some (.iface t x) := by rw [← Array.getElem?_toList, Array.toList_append]; rfl
  have h1 : (#[Value.iface t x] ++ c.args.map a.eval).extract 1 (#[Value.iface t x] ++ c.args.map a.eval).size = c.args.map a.eval := by
    apply Array.toList_inj.1
    simp [List.take_of_length_le]
  simp only [h0, h1]
  unfold callMethod
  simp only [Sem.run_bind, program, Sem.run, Result.andThen]
  have := run_method hm x w
  rw [this]

/-- A function is called. -/
theorem callee_func {o : Oper} {c : Call} (ho : o.op = .call c) (hR : RR I A regs a.tmps) {f : FuncId} {args : List V} (hc : (calleeX P c).run regs = some (.func f args)) (hb : HasBody P f) :
    ∃ xs, (execOp a.eval o).run P w = .ok (.enter f xs) w ∧ vrl I A args xs.toList := by
  unfold calleeX at hc
  cases hk : c.callee with
  | builtin b => rw [hk] at hc; cases hc
  | value y =>
    rw [hk] at hc
    simp only at hc
    split at hc
    · rename_i g first cap args' hg ha
      obtain ⟨rfl, rfl⟩ := Callee1.func.inj (Option.some.inj hc)
      have hv := rd_vr hR hg
      simp only [vr] at hv
      obtain ⟨f', a', c', e, h1, h2, h3⟩ := hv
      obtain rfl : f' = .func g := h1
      refine ⟨a' ++ c.args.map a.eval ++ c', ?_, ?_⟩
      · rw [run_call_value ho hk e]
        exact run_callFunc_enter hb _ _
      · rw [Array.toList_append, Array.toList_append]
        exact vrl_append (vrl_append h2 (map_toList hR ha)) h3
    · cases hc
    · cases hc
  | invoke y name =>
    rw [hk] at hc
    simp only at hc
    split at hc
    · rename_i t v args' hg ha
      split at hc
      · rename_i f' hm
        obtain ⟨rfl, rfl⟩ := Callee1.func.inj (Option.some.inj hc)
        have hv := rd_vr hR hg
        simp only [vr] at hv
        obtain ⟨x, e, h1⟩ := hv
        refine ⟨#[x] ++ c.args.map a.eval, ?_, ?_⟩
        · rw [run_call_invoke ho hk e hm]
          exact run_callFunc_enter hb _ _
        · rw [Array.toList_append]
          rw [vrl]
          exact ⟨x, (c.args.map a.eval).toList, rfl, h1, map_toList hR ha⟩
      · cases hc
    · cases hc

/-- A round is called. -/
theorem callee_round {o : Oper} {c : Call} (ho : o.op = .call c) (hR : RR I A regs a.tmps) {l : Nat} {args : List V} (hc : (calleeX P c).run regs = some (.round l args)) :
    ∃ b xs, A.yld l b ∧ (execOp a.eval o).run P w = (Instr.yield b xs).run P w ∧ vrl I A args xs.toList := by
  unfold calleeX at hc
  cases hk : c.callee with
  | builtin b => rw [hk] at hc; cases hc
  | value y =>
    rw [hk] at hc
    simp only at hc
    split at hc
    · cases hc
    · rename_i l' args' hg ha
      obtain ⟨rfl, rfl⟩ := Callee1.round.inj (Option.some.inj hc)
      have hv := rd_vr hR hg
      simp only [vr] at hv
      obtain ⟨f', a', c', e, h1, h2, h3⟩ := hv
      cases f' with
      | yield b =>
        simp only [vrl] at h2
        obtain rfl := Array.toList_eq_nil_iff.1 h2
        refine ⟨b, #[] ++ c.args.map a.eval, h1, run_call_value ho hk e, ?_⟩
        rw [Array.toList_append]
        exact map_toList hR ha
      | _ => exact h1.elim
    · cases hc
  | invoke y name =>
    rw [hk] at hc
    simp only at hc
    split at hc
    · split at hc
      · cases hc
      · cases hc
    · cases hc

end
end Go.Ae

/- The abstract evaluator: what is asked of code; one operation in the order of the text. -/
namespace Go.Ae
variable {P : Program}

/-- How code is left. -/
def exR (g : G) (h : H) : Ex → Exit → Prop
  | .normal, e => e = .normal
  | .exit id, e => e = .exit id
  | .ret, e => e = .ret
  | .pan v, e => ∃ x, e = .panic [{ v := x, recovered := false }] ∧ vr g.I (g.at h.get h.n) v x

theorem exR_ext {g g' : G} {h h' : H} {w w' : World} (e : Ext2 g h w g' h' w') {x : Ex} {y : Exit} (hx : exR g h x y) : exR g' h' x y := by
  cases x with
  | pan v => obtain ⟨z, h1, h2⟩ := hx; exact ⟨z, h1, e.vr h2⟩
  | _ => exact hx

/-- The round's loop is there. -/
def cxOk (cx : Cx) (s : St) : Prop := ∀ l, cx.round = some l → l < s.h.n ∧ (s.h.get l).firm = true

theorem cxOk.ext {cx : Cx} {s s' : St} {g g' : G} {w w' : World} (h : cxOk cx s) (e : Ext2 g s.h w g' s'.h w') : cxOk cx s' := fun l hl => by
  obtain ⟨h1, h2⟩ := h l hl
  exact ⟨Nat.lt_of_lt_of_le h1 e.n_le, (e.ids l h1 h2).1⟩

theorem fenceAt_ext {cx : Cx} {s s' : St} {g g' : G} {w w' : World} (h : cxOk cx s) (e : Ext2 g s.h w g' s'.h w') : fenceAt g' cx.round = fenceAt g cx.round := by
  cases hr : cx.round with
  | none => rfl
  | some l =>
    obtain ⟨h1, h2⟩ := h l hr
    show Fence.wide.inRound (g'.mu l) = Fence.wide.inRound (g.mu l)
    rw [(e.ids l h1 h2).2.1]

/-- What is asked of code. -/
def CodeOk (P : Program) (cx : Cx) (c : Code) (s : St) (outs : List (Ex × St)) : Prop :=
  ∀ (g : G) (a : Act) (w : World), SR g s a w → cxOk cx s →
    c.wpIn (fenceAt g cx.round) 0 P (fun e a' w' => ∃ r ∈ outs, ∃ g', exR g' r.2.h r.1 e ∧ SR g' r.2 a' w' ∧ Ext2 g s.h w g' r.2.h w') a w

structure EvOk (P : Program) (E : Ev) : Prop where
  call : ∀ f args h outs, E.call f args h = some outs → HasBody P f ∧ CallOk P f args h outs
  code : ∀ cx c s outs, E.code cx c s = some outs → CodeOk P cx c s outs

structure KnOk (P : Program) (known : Known) : Prop where
  ok : KnownOk P known
  body : ∀ f args v, known.call f args = some v → HasBody P f

/-- What is asked of an operation. -/
def OpOk (P : Program) (o : Oper) (cx : Cx) (s : St) (rs : List (Ex × St)) : Prop :=
  ∀ (g : G) (a : Act) (w : World) (K : Act → World → Prop) (Q : Exit → Act → World → Prop), SR g s a w → cxOk cx s →
    (∀ s', (.normal, s') ∈ rs → ∀ g' a' w', SR g' s' a' w' → Ext2 g s.h w g' s'.h w' → K a' w') →
    (∀ v s', (.pan v, s') ∈ rs → ∀ g' a' w' x, SR g' s' a' w' → Ext2 g s.h w g' s'.h w' → vr g'.I (g'.at s'.h.get s'.h.n) v x → Q (.panic [{ v := x, recovered := false }]) a' w') → o.wpIn (fenceAt g cx.round) 0 P a w K Q

theorem callsIn_at {g : G} {r : Option Nat} {n : Nat} {f : FuncId} {xs : Array Value} {w : World} {R : Ending → World → Prop} (h : CallsIn Fence.wide n P f xs w R) : CallsIn (fenceAt g r) n P f xs w R := by
  cases r with
  | none => exact h
  | some l => exact h

theorem op_exec {o : Oper} {cx : Cx} {s : St} {hm : Bool} {e : Eff} (hnd : ∀ c, o.op ≠ .defer c) (hx : (exec P hm o.op).run s.regs s.h.get s.h.n = some e) : OpOk P o cx s [(.normal, s.eff o e)] := by
  intro g a w K Q hS hcx hk hp
  obtain ⟨x, w', g', h1, h2, h3⟩ := comes_state hS (exec_sound hS.wr fresh_top hS.rr hx)
  exact gives_wpIn hnd h1 (hk _ (List.mem_singleton.2 rfl) g' _ w' h2 h3)

/-- A state behind an effect. -/
theorem lands_state {g : G} {s : St} {a : Act} {w w' : World} (hS : SR g s a w) {o : Oper} {e : Eff} {x : Value} (hl : Lands g s.h.get s.h.n w s.h.n e x w') :
    ∃ g', SR g' (s.eff o e) (a.put o.dst x) w' ∧ Ext2 g s.h w g' (s.eff o e).h w' := by
  obtain ⟨g', hW, hE, hv⟩ := hl
  obtain ⟨k1, k2, k3⟩ := e.apply_get hS.wf
  have k3' : ∀ j, j < e.top s.h.n s.h.n → e.upd s.h.get s.h.n j = (e.apply s.h).get j := fun j hj => (k3 j (by rw [k2]; exact hj)).symm
  have ha := at_congr (g := g') k3'
  have hE' : Ext g s.h.get s.h.n w g' (e.apply s.h).get (e.apply s.h).n w' := by rw [k2]; exact hE.congr (fun _ _ => rfl) k3'
  refine ⟨g', ⟨k1, ?_, ?_, ?_⟩, hE'⟩
  · show RR g'.I (g'.at (e.apply s.h).get (e.apply s.h).n) (put s.regs o.dst e.v) _
    refine put_rr (hE'.rr hS.rr) o.dst ?_
    rw [k2, ← ha]; exact hv
  · show WR g' (e.apply s.h).get (e.apply s.h).n w'
    rw [k2]; exact hW.congr k3'
  · show dfR g' (e.apply s.h).get (e.apply s.h).n s.dfs _
    rw [put_defers]
    exact dfR_ext hE' hS.df

/-- The same behind a panic. -/
theorem lands_pan {g : G} {s : St} {a : Act} {w w' : World} (hS : SR g s a w) {e : Eff} {x : Value} (hl : Lands g s.h.get s.h.n w s.h.n e x w') :
    ∃ g', SR g' { s with h := e.apply s.h } a w' ∧ Ext2 g s.h w g' (e.apply s.h) w' ∧ vr g'.I (g'.at (e.apply s.h).get (e.apply s.h).n) e.v x := by
  obtain ⟨g', hW, hE, hv⟩ := hl
  obtain ⟨k1, k2, k3⟩ := e.apply_get hS.wf
  have k3' : ∀ j, j < e.top s.h.n s.h.n → e.upd s.h.get s.h.n j = (e.apply s.h).get j := fun j hj => (k3 j (by rw [k2]; exact hj)).symm
  have ha := at_congr (g := g') k3'
  have hE' : Ext g s.h.get s.h.n w g' (e.apply s.h).get (e.apply s.h).n w' := by rw [k2]; exact hE.congr (fun _ _ => rfl) k3'
  refine ⟨g', ⟨k1, hE'.rr hS.rr, ?_, dfR_ext hE' hS.df⟩, hE', ?_⟩
  · show WR g' (e.apply s.h).get (e.apply s.h).n w'
    rw [k2]; exact hW.congr k3'
  · rw [k2, ← ha]; exact hv

theorem enter_wpIn {g : G} {r : Option Nat} {o : Oper} {c : Call} {a : Act} {w : World} (ho : o.op = .call c) {f : FuncId} {xs : Array Value} (h : (execOp a.eval o).run P w = .ok (.enter f xs) w)
    {R : Ending → World → Prop} (hc : CallsIn Fence.wide 0 P f xs w R) {K : Act → World → Prop} {Q : Exit → Act → World → Prop} (hk : ∀ e w', R e w' → ∃ p x, endR p x e ∧ if p then Q (.panic [{ v := x, recovered := false }]) a w' else K (a.put o.dst x) w') : o.wpIn (fenceAt g r) 0 P a w K Q := by
  refine ⟨fun f _ => fenceAt_fn g r f, ?_⟩
  rw [Oper.semAt_eq _ _ _ (fun c' => by rw [ho]; exact Op.noConfusion), h, Oper.uponIn_enter]
  refine ⟨fun hd => (by rw [fenceAt_depth] at hd; cases hd), callsIn_at (hc.mono ?_)⟩
  intro e w' hr
  obtain ⟨p, x, he, hK⟩ := hk e w' hr
  unfold endR at he
  subst he
  cases p <;> exact hK

theorem freshN_top {h : H} (k : Nat) : FreshN h.get h.n h.n k := ⟨Nat.le_refl _, fun j a _ c => by omega⟩

theorem op_func {hint : Hint} {known : Known} {E : Ev} (hE : EvOk P E) (hK : KnOk P known) {o : Oper} {c : Call} (ho : o.op = .call c) {cx : Cx} {s : St} {f : FuncId} {args : List V} (hc : (calleeX P c).run s.regs = some (.func f args))
    {rs : List (Ex × St)} (hs : callO hint known E o s (some (.func f args)) = some rs) : OpOk P o cx s rs := by
  intro g a w K Q hS hcx hk hp
  simp only [callO] at hs
  split at hs
  · rename_i hpu
    cases hcp : callP hint known E f (V.seals args) s.h.n with
    | none => simp [hcp] at hs
    | some es =>
      have hss : rs = es.map (s.effR o) := by
        simp only [hcp] at hs
        split at hs
        · rename_i e he
          obtain rfl := Option.some.inj hs
          obtain rfl := Option.some.inj he
          rfl
        · rename_i es' he
          obtain rfl := Option.some.inj hs
          obtain rfl := Option.some.inj he
          rfl
        · rename_i he; cases he
      have hb : HasBody P f := by
        unfold callP at hcp
        split at hcp
        · rename_i v hv; exact hK.body _ _ _ hv
        · split at hcp
          · rename_i outs ho; exact (hE.call _ _ _ _ ho).1
          · cases hcp
      obtain ⟨xs, h1, h2⟩ := callee_func (w := w) ho hS.rr hc hb
      refine enter_wpIn ho h1 (callP_sound hK.ok (fun f args outs ho => (hE.call _ _ _ _ ho).2) hcp hpu hS.wr (vrl_seals h2) (fun e _ => freshN_top _)) ?_
      rintro en w' ⟨x, e, he, hen, hl⟩
      have hm : s.effR o e ∈ rs := by rw [hss]; exact List.mem_map_of_mem he
      refine ⟨e.pan, x, hen, ?_⟩
      cases hpan : e.pan with
      | true =>
        have hm' : (.pan e.v, { s with h := e.apply s.h }) ∈ rs := by unfold St.effR at hm; rw [hpan] at hm; exact hm
        obtain ⟨g', q1, q2, q3⟩ := lands_pan hS hl
        exact hp _ _ hm' g' a w' x q1 q2 q3
      | false =>
        have hm' : (.normal, s.eff o e) ∈ rs := by unfold St.effR at hm; rw [hpan] at hm; exact hm
        obtain ⟨g', q1, q2⟩ := lands_state (o := o) hS hl
        exact hk _ hm' g' _ w' q1 q2
  · split at hs
    · rename_i outs hcl
      obtain rfl := Option.some.inj hs
      obtain ⟨hb, hok⟩ := hE.call _ _ _ _ hcl
      obtain ⟨xs, h1, h2⟩ := callee_func (w := w) ho hS.rr hc hb
      refine enter_wpIn ho h1 (hok g xs w hS.wf hS.wr h2) ?_
      rintro en w' ⟨x, r, hr, hen, g', q1, q2, q3, q4⟩
      refine ⟨r.1.isPan, x, hen, ?_⟩
      have hm : s.resR o r ∈ outs.map (s.resR o) := List.mem_map_of_mem hr
      obtain ⟨rv, h'⟩ := r
      cases rv with
      | ret v =>
        refine hk (s.res o (v, h')) hm g' _ w' ⟨q1, put_rr (q3.rr hS.rr) o.dst q4, q2, ?_⟩ q3
        show dfR g' h'.get h'.n s.dfs _
        rw [put_defers]
        exact dfR_ext q3 hS.df
      | pan v =>
        exact hp v _ hm g' a w' x ⟨q1, q3.rr hS.rr, q2, dfR_ext q3 hS.df⟩ q3 q4
    · cases hs

end Go.Ae

/- The abstract evaluator: rounds of a range over a function, the next entry of a map, deferred calls. -/
namespace Go.Ae
variable {P : Program}

section
variable {g : G} {get : Nat → Blk} {n : Nat} {w : World}

/-- A loop's record is otherwise. -/
theorem WR.set_loop (h : WR g get n w) {r : Nat} (hr : r < n) {fn : FuncId} {regs : T V} {ps : List Tmp} {asg body : Code} {pend : Option Code} {st : LoopState} {d : Nat} (hg : get r = .loop fn regs ps asg body pend st d)
    {L : Loop} (hL : w.heap[g.mu r]? = some (.loop L)) {st' : LoopState} {pend' : Option Code} {L' : Loop} (hL' : L' = { L with state := st', pending := pend' }) :
    WR g (upd get r (.loop fn regs ps asg body pend' st' d)) n (w.putObj (g.mu r) (.loop L')) ∧ Ext g get n w g (upd get r (.loop fn regs ps asg body pend' st' d)) n (w.putObj (g.mu r) (.loop L')) := by
  refine h.set_obj hr (by rw [hg]; rfl) (by rw [hg]; rfl) hL (by simp) (by simp) rfl ?_ ?_ ?_
  · intro j m ver left cur _ _ _ _ es ver' he; cases he
  · intro e
    have hb := h.blk r hr
    rw [hg] at hb
    obtain ⟨L0, h1, h2, h3, h5, h6, h7, h8, h9, h10, h11⟩ := hb
    rw [hL] at h1
    cases h1
    subst hL'
    refine ⟨{ L with state := st', pending := pend' }, by simp [heap_lt hL], rfl, rfl, h5, h6, h7, e.rr h8, h9, ?_, h11⟩
    exact (e.ids d h9 h10).1
  · intro es ver he; rw [hg] at he; cases he

end

theorem setAll_rr {I : Imm} {A : At} : ∀ {ts : List Tmp} {vs : List V} {xs : List Value} {regs : T V} {tmps : Array Value}, RR I A regs tmps → vrl I A vs xs → vs.length = ts.length →
    RR I A (setAll ts vs regs) ((ts.zip xs).foldl (fun tmps (t, a) => tmps.setIfInBounds t a) tmps)
  | [], [], xs, regs, tmps, hR, hv, _ => by simp only [vrl] at hv; subst hv; exact hR
  | t :: ts, v :: vs, xs, regs, tmps, hR, hv, hl => by
    rw [vrl] at hv
    obtain ⟨y, ys, rfl, h1, h2⟩ := hv
    show RR I A (setAll ts vs (regs.set t v)) ((ts.zip ys).foldl _ (tmps.setIfInBounds t y))
    exact setAll_rr (hR.set t h1) h2 (by simpa using hl)
  | [], _ :: _, _, _, _, _, _, hl => by simp at hl
  | _ :: _, [], _, _, _, _, _, hl => by simp at hl

theorem zip_foldl (ps : Array Tmp) (xs tmps : Array Value) : (ps.zip xs).foldl (fun tmps (t, a) => tmps.setIfInBounds t a) tmps = (ps.toList.zip xs.toList).foldl (fun tmps (t, a) => tmps.setIfInBounds t a) tmps := by
  rw [← Array.foldl_toList, Array.toList_zip]

/-- A heap's block is otherwise: as functions. -/
theorem H.set_upd {h : H} (hw : h.wf) {r : Nat} (hr : r < h.n) (b : Blk) (j : Nat) : (h.set r b).get j = upd h.get r b j := by
  rw [H.get_set hw]
  unfold upd
  by_cases hj : j = r
  · rw [if_pos ⟨hj, hr⟩, if_pos hj]
  · rw [if_neg (fun hh => hj hh.1), if_neg hj]

theorem H.set_upd' {h : H} (hw : h.wf) {r : Nat} (hr : r < h.n) (b : Blk) : (h.set r b).get = upd h.get r b := funext fun j => H.set_upd hw hr b j

theorem fenceAt_inRound (g : G) (r : Option Nat) (l : Nat) : (fenceAt g r).inRound (g.mu l) = fenceAt g (some l) := by cases r <;> rfl

theorem allO_one {α β : Type} {f : α → Option β} {l : List α} {l' : List β} (h : allO f l = some l') {x : α} (hx : x ∈ l) : ∃ y ∈ l', f x = some y := allO_mem h x hx

/-- A round is called. -/
theorem op_round {hint : Hint} {known : Known} {E : Ev} (hE : EvOk P E) {o : Oper} {c : Call} (ho : o.op = .call c) {cx : Cx} {s : St} {l : Nat} {args : List V} (hc : (calleeX P c).run s.regs = some (.round l args))
    {ss : List (Ex × St)} (hs : callO hint known E o s (some (.round l args)) = some ss) : OpOk P o cx s ss := by
  intro g a w K Q hS hcx hk hpn
  simp only [callO] at hs
  cases hro : roundE E s.h l args with
  | none => simp [hro] at hs
  | some outs =>
    simp only [hro] at hs
    obtain rfl := Option.some.inj hs
    obtain ⟨b, xs, hy, hrun, hxs⟩ := callee_round (P := P) (w := w) ho hS.rr hc
    obtain ⟨hl, hfm, rfl⟩ := hy
    refine ⟨fun f _ => fenceAt_fn g cx.round f, ?_⟩
    rw [Oper.semAt_eq _ _ _ (fun c' => by rw [ho]; exact Op.noConfusion), hrun]
    unfold roundE at hro
    split at hro
    · rename_i fn regs params assign body pend dfr hgl
      split at hro
      · rename_i hlen
        split at hro
        · rename_i s1 hcode1
          split at hro
          · rename_i fn' regs' params' assign' body' pend' dfr' hgl1
            split at hro
            · rename_i bouts hcode2
              have hb := hS.wr.blk l hl
              rw [hgl] at hb
              obtain ⟨L, h1, h2, h3, h5, h6, h7, h8, h9, h10, h11⟩ := hb
              have hsz : xs.size = L.params.size := by
                rw [← Array.length_toList, vrl_len hxs, hlen, ← h5, Array.length_toList]
              rw [run_yield h1 hsz, Oper.uponIn_round]
              refine ⟨fun hd => (by rw [fenceAt_depth] at hd; cases hd), ?_⟩
              refine roundIn_of_wpIn (fenceAt_fn g cx.round _) ?_
              rw [fenceAt_inRound, h6, h7]
              have hS1 : SR g { regs := setAll params args regs, dfs := [], h := s.h } { tmps := (L.params.zip xs).foldl (fun tmps (t, a) => tmps.setIfInBounds t a) L.tmps, defers := [] } w :=
                ⟨hS.wf, by rw [zip_foldl, h5]; exact setAll_rr h8 hxs hlen, hS.wr, rfl⟩
              have hcx1 : cxOk { fn := fn, round := some l } { regs := setAll params args regs, dfs := [], h := s.h } := fun l' hl' => by
                obtain rfl := Option.some.inj hl'; exact ⟨hl, hfm⟩
              refine wpIn_mono (hE.code _ _ _ _ hcode1 g _ w hS1 hcx1) ?_
              rintro e a1 w1 ⟨r, hr, g1, hx, hS2, hE1⟩
              obtain rfl := List.mem_singleton.1 hr
              obtain rfl : e = .normal := hx
              show Exit.then _ _ Exit.normal a1 w1
              obtain ⟨hl1, hfm1⟩ := hcx1.ext (s' := s1) hE1 l rfl
              have hb1 := hS2.wr.blk l hl1
              rw [hgl1] at hb1
              obtain ⟨L1, i1, i2, i3, i5, i6, i7, i8, i9, i10, i11⟩ := hb1
              have hmu : g1.mu l = g.mu l := (hE1.ids l hl hfm).2.1
              rw [hmu] at i1
              refine ⟨_, run_beginRound i1 i2, ?_⟩
              obtain ⟨hW2, hX2⟩ := hS2.wr.set_loop hl1 hgl1 (by rw [hmu]; exact i1) (st' := .busy) (pend' := pend') (L' := { L1 with state := .busy }) (by rw [← i3])
              rw [hmu] at hW2 hX2
              have hget : (s1.h.set l (.loop fn' regs' params' assign' body' pend' .busy dfr')).get = upd s1.h.get l (.loop fn' regs' params' assign' body' pend' .busy dfr') := H.set_upd' hS2.wf hl1 _
              have hX2' : Ext2 g1 s1.h w1 g1 (s1.h.set l (.loop fn' regs' params' assign' body' pend' .busy dfr')) (w1.putObj (g.mu l) (.loop { L1 with state := .busy })) := by
                show Ext g1 s1.h.get s1.h.n w1 g1 (s1.h.set l _).get s1.h.n _
                rw [hget]; exact hX2
              have hS3 : SR g1 { s1 with h := s1.h.set l (.loop fn' regs' params' assign' body' pend' .busy dfr') } a1 (w1.putObj (g.mu l) (.loop { L1 with state := .busy })) := by
                refine ⟨H.wf_set hS2.wf _ _, hX2'.rr hS2.rr, ?_, dfR_ext hX2' hS2.df⟩
                show WR g1 (s1.h.set l _).get s1.h.n _
                rw [hget]; exact hW2
              have hcx3 : cxOk { fn := fn, round := some l } { s1 with h := s1.h.set l (.loop fn' regs' params' assign' body' pend' .busy dfr') } :=
                (hcx1.ext (s' := s1) hE1).ext (s := s1) (s' := { s1 with h := s1.h.set l (.loop fn' regs' params' assign' body' pend' .busy dfr') }) hX2'
              have hfe : fenceAt g1 (some l) = fenceAt g (some l) := by show Fence.wide.inRound (g1.mu l) = Fence.wide.inRound (g.mu l); rw [hmu]
              have hbody := hE.code _ _ _ _ hcode2 g1 a1 _ hS3 hcx3
              rw [show fenceAt g1 ({ fn := fn, round := some l } : Cx).round = fenceAt g (some l) from hfe] at hbody
              refine wpIn_mono hbody ?_
              rintro e a2 w2 ⟨r, hr, g2, hx, hS4, hE4⟩
              obtain ⟨⟨v, h'⟩, hout, hend⟩ := allO_mem hro r hr
              obtain ⟨hl2, hfm2⟩ := hcx3.ext (s' := r.2) hE4 l rfl
              have hb2 := hS4.wr.blk l hl2
              have hmu2 : g2.mu l = g.mu l := by rw [(hE4.ids l (hcx3 l rfl).1 (hcx3 l rfl).2).2.1, hmu]
              unfold endRoundE at hend
              split at hend
              · rename_i fn2 regs2 params2 assign2 body2 pend2 dfr2 hdf hgl2
                rw [hgl2] at hb2
                obtain ⟨L2, j1, j2, j3, j5, j6, j7, j8, j9, j10, j11⟩ := hb2
                rw [hmu2] at j1
                have fin : ∀ (jump : Option Code) (st' : LoopState), (if jump.isNone then LoopState.ready else .done) = st' →
                    (v, h') = (.bool jump.isNone, r.2.h.set l (.loop fn2 regs2 params2 assign2 body2 jump st' dfr2)) →
                    ∃ v' w', (Instr.endRound (g.mu l) jump).run P w2 = .ok v' w' ∧ K (a.put o.dst v') w' := by
                  intro jump st' hst hvh
                  obtain ⟨rfl, rfl⟩ := Prod.mk.inj hvh
                  refine ⟨_, _, run_endRound jump j1, ?_⟩
                  rw [hst]
                  obtain ⟨hW5, hX5⟩ := hS4.wr.set_loop hl2 hgl2 (by rw [hmu2]; exact j1) (st' := st') (pend' := jump) (L' := { L2 with state := st', pending := jump }) rfl
                  rw [hmu2] at hW5 hX5
                  have hget5 : (r.2.h.set l (.loop fn2 regs2 params2 assign2 body2 jump st' dfr2)).get = upd r.2.h.get l (.loop fn2 regs2 params2 assign2 body2 jump st' dfr2) := H.set_upd' hS4.wf hl2 _
                  have hX5' : Ext2 g2 r.2.h w2 g2 (r.2.h.set l (.loop fn2 regs2 params2 assign2 body2 jump st' dfr2)) (w2.putObj (g.mu l) (.loop { L2 with state := st', pending := jump })) := by
                    show Ext g2 r.2.h.get r.2.h.n w2 g2 (r.2.h.set l _).get r.2.h.n _
                    rw [hget5]; exact hX5
                  have hall : Ext2 g s.h w g2 (r.2.h.set l (.loop fn2 regs2 params2 assign2 body2 jump st' dfr2)) (w2.putObj (g.mu l) (.loop { L2 with state := st', pending := jump })) :=
                    ((Ext.trans hE1 hX2').trans hE4).trans hX5'
                  refine hk (s.res o (.bool jump.isNone, r.2.h.set l (.loop fn2 regs2 params2 assign2 body2 jump st' dfr2))) (List.mem_map.2 ⟨_, hout, rfl⟩) g2 _ _ ⟨H.wf_set hS4.wf _ _, put_rr (hall.rr hS.rr) o.dst (by simp [vr]), ?_, ?_⟩ hall
                  · show WR g2 (r.2.h.set l _).get r.2.h.n _
                    rw [hget5]; exact hW5
                  · show dfR g2 _ _ s.dfs _
                    rw [put_defers]; exact dfR_ext hall hS.df
                split at hend
                · rename_i hr1
                  rw [hr1] at hx
                  obtain rfl : e = .normal := hx
                  exact fin none .ready rfl (Option.some.inj hend).symm
                · rename_i hr1
                  rw [hr1] at hx
                  obtain rfl : e = .ret := hx
                  exact fin (some .ret) .done rfl (Option.some.inj hend).symm
                · rename_i id hr1
                  rw [hr1] at hx
                  obtain rfl : e = .exit id := hx
                  exact fin (some (.exit id)) .done rfl (Option.some.inj hend).symm
                · cases hend
              · cases hend
            · cases hro
          · cases hro
        · cases hro
      · cases hro
    · cases hro

/-! ### The next entry of a map -/
theorem picks_get : ∀ (l pre : List (V × V)) (i : Nat), (picks pre l)[i]? = (l[i]?).map fun x => (x, pre.reverse ++ l.eraseIdx i)
  | [], pre, i => by simp [picks]
  | x :: post, pre, 0 => by simp [picks]
  | x :: post, pre, i + 1 => by
    simp only [picks, List.getElem?_cons_succ, List.eraseIdx_cons_succ]
    rw [picks_get post (x :: pre) i]
    simp [List.append_assoc]

theorem entsR_erase {I : Imm} {A : At} : ∀ {l : List (V × V)} {es : List MapEntry} (i : Nat), entsR I A l es → entsR I A (l.eraseIdx i) (es.eraseIdx i)
  | [], es, i, h => by simp only [entsR] at h; subst h; simp [entsR]
  | (k, v) :: l, es, 0, h => by
    simp only [entsR] at h
    obtain ⟨e, es', rfl, h1, h2, h3⟩ := h
    simpa using h3
  | (k, v) :: l, es, i + 1, h => by
    simp only [entsR] at h
    obtain ⟨e, es', rfl, h1, h2, h3⟩ := h
    simp only [List.eraseIdx_cons_succ, entsR]
    exact ⟨e, _, rfl, h1, h2, entsR_erase i h3⟩

theorem filter_erase : ∀ (L : List MapEntry) (i : Nat) (e : MapEntry), (L.map (·.born)).Nodup → L[i]? = some e → L.filter (fun x => !(x.born == e.born)) = L.eraseIdx i
  | [], i, e, _, h => by simp at h
  | x :: L, 0, e, hn, h => by
    simp only [List.getElem?_cons_zero, Option.some.injEq] at h
    subst h
    simp only [List.map_cons, List.nodup_cons, List.mem_map, not_exists, not_and] at hn
    rw [List.filter_cons_of_neg (by simp), List.eraseIdx_cons_zero]
    apply List.filter_eq_self.2
    intro y hy
    have := hn.1 y hy
    simpa using this
  | x :: L, i + 1, e, hn, h => by
    simp only [List.getElem?_cons_succ] at h
    simp only [List.map_cons, List.nodup_cons, List.mem_map, not_exists, not_and] at hn
    have hx : ¬ (x.born = e.born) := fun hh => hn.1 e (List.mem_of_getElem? h) hh.symm
    rw [List.filter_cons_of_pos (by simpa using hx), List.eraseIdx_cons_succ, filter_erase L i e hn.2 h]

theorem find_born : ∀ (L : List MapEntry) (e : MapEntry), (L.map (·.born)).Nodup → e ∈ L → L.find? (fun x => x.born == e.born) = some e
  | [], e, _, h => by cases h
  | x :: L, e, hn, h => by
    simp only [List.map_cons, List.nodup_cons, List.mem_map, not_exists, not_and] at hn
    rcases List.mem_cons.1 h with rfl | hm
    · rw [List.find?_cons_of_pos (by simp)]
    · have hx : ¬ (x.born = e.born) := fun hh => hn.1 e hm hh.symm
      rw [List.find?_cons_of_neg (by simpa using hx), find_born L e hn.2 hm]

theorem run_choose (q : Question) (w : World) : ∃ d, (choose q).run P w = .ok (if q.forced then 0 else q.cut (w.tape w.drawn q)) { w with drawn := d } := by
  unfold choose
  simp only [Sem.run]
  split
  · exact ⟨w.drawn, rfl⟩
  · exact ⟨_, rfl⟩

theorem run_mapNext (k : Nat) (hk : 0 < k) (w : World) : ∃ i d, i < k ∧ (choose (.mapNext k)).run P w = .ok i { w with drawn := d } := by
  obtain ⟨d, hd⟩ := run_choose (P := P) (.mapNext k) w
  refine ⟨_, d, ?_, hd⟩
  split
  · exact hk
  · exact Nat.mod_lt _ hk

section
variable {g : G} {get : Nat → Blk} {n : Nat} {w : World}

theorem next_sound (h : WR g get n w) {nid : Nat} {o : Oper} {a : Act} {y : Operand} (ho : o.op = .next y false) {x : V} (hx : vr g.I (g.at get n) x (a.eval y)) {es : List Eff} (he : nextV get x = some es) :
    ∃ e ∈ es, ∃ z w', (execOp a.eval o).run P w = .ok (.value z) w' ∧ Lands g get n w nid e z w' := by
  have hex : execOp a.eval o = (do pure (.value (← Instr.next (a.eval y) false o.type))) := by unfold execOp; rw [ho]
  have over : ∀ (v : V) (rs : List Nat), v = .tup [.bool false] → (Instr.next (a.eval y) false o.type).run P w = .ok (.tuple #[.bool false]) w → [{ v := v, rd := rs }] = es → ∃ e ∈ es, ∃ z w', (execOp a.eval o).run P w = .ok (.value z) w' ∧ Lands g get n w nid e z w' := by
    intro v rs hv hrun hes
    subst hes hv
    refine ⟨_, List.mem_singleton.2 rfl, _, w, run_v hex hrun, g, h, Ext.refl _ _ _ _, ?_⟩
    simp [vr, vrl]
  unfold nextV at he
  split at he
  · rename_i r
    simp only [vr] at hx
    obtain ⟨ad, hxe, hr, hfm, rfl⟩ := hx
    have hb := h.blk r hr
    split at he
    · rename_i ver left cur hg
      rw [hg] at hb
      obtain ⟨h1, h2⟩ := hb
      refine over _ _ rfl ?_ (Option.some.inj he)
      unfold Instr.next
      rw [hxe, h1]
      simp only [Sem.run_bind, Nat.add_zero, run_getObj h2 (by simp), Result.andThen, Sem.run_pure]
    · rename_i m ver left cur hg
      rw [hg] at hb
      obtain ⟨h1, h2, h3, since, seen, last, h4, h5, h6⟩ := hb
      split at he
      · rename_i es' ver' hgm
        split at he
        · rename_i hver
          subst hver
          obtain ⟨ents, k1, k2, k3, k4⟩ := h6 es' hgm
          subst k2
          have hbm := h.blk m h1
          rw [hgm] at hbm
          obtain ⟨ents', clock, m1, m2, m3, m4⟩ := hbm
          rw [k1] at m1
          obtain ⟨rfl, rfl⟩ : ents = ents' ∧ last = clock := by simpa using m1
          have hall : (!seen.isEmpty && !ents.isEmpty && ents.all (fun e => decide (e.born ≥ last))) = false := by
            cases hem : ents.isEmpty with
            | true => simp
            | false =>
              have hne : ents.toList ≠ [] := by
                intro hh
                rw [Array.toList_eq_nil_iff] at hh
                rw [hh] at hem; cases hem
              obtain ⟨x, l, hxl⟩ := List.exists_cons_of_ne_nil hne
              have hx : x ∈ ents.toList := by rw [hxl]; exact List.mem_cons_self
              have hlt := m4 x hx
              have : ents.all (fun e => decide (e.born ≥ last)) = false := by
                rw [Bool.eq_false_iff]
                intro hh
                rw [Array.all_eq_true_iff_forall_mem] at hh
                have := hh x (Array.mem_toList_iff.1 hx)
                simp at this
                omega
              rw [this]; simp
          have hold : (ents.filter fun e => !seen.contains e.born).filter (fun e => decide (e.born < last)) = ents.filter fun e => !seen.contains e.born := by
            apply Array.toList_inj.1
            rw [Array.toList_filter, Array.toList_filter]
            apply List.filter_eq_self.2
            intro x hx
            have := m4 x (List.mem_filter.1 hx).1
            simpa using this
          have hnew : (ents.filter fun e => !seen.contains e.born).filter (fun e => decide (e.born ≥ last)) = #[] := by
            apply Array.toList_inj.1
            rw [Array.toList_filter, Array.toList_filter]
            apply List.filter_eq_nil_iff.2
            intro x hx
            have := m4 x (List.mem_filter.1 hx).1
            simp; omega
          generalize hL : (ents.filter fun e => !seen.contains e.born) = L at hold hnew
          have hLl : L.toList = ents.toList.filter (fun e => !seen.contains e.born) := by rw [← hL, Array.toList_filter]
          rw [← hLl] at k3
          have hlen := entsR_len k3
          have hrun : (Instr.next (a.eval y) false o.type).run P w =
              Result.andThen ((choose (.mapNext (((if L.isEmpty then #[none] else #[]) ++ (L ++ #[]).map some : Array (Option MapEntry))).size)).run P w) (fun i w1 =>
                (match ((if L.isEmpty then #[none] else #[]) ++ (L ++ #[]).map some : Array (Option MapEntry))[i]? with
                | some (some e) => do
                  setObj (g.mu r) (.mapIter (some (g.mu m)) last (seen.push e.born) last)
                  pure (.tuple #[.bool true, e.key, e.val])
                | some none => pure (.tuple #[.bool false])
                | none => stuck "Next: no such candidate" : Sem Value).run P w1) := by
            unfold Instr.next
            rw [hxe, h3]
            simp only [Sem.run_bind, Nat.add_zero, run_getObj h4 (by simp), Result.andThen, run_getObj k1 (by simp), hall, Bool.false_eq_true, if_false, Sem.run_pure, hL, hold, hnew]
            generalize (choose (.mapNext (((if L.isEmpty then #[none] else #[]) ++ (L ++ #[]).map some : Array (Option MapEntry))).size)).run P w = R
            cases R with
            | halt _ _ => rfl
            | ok i w1 =>
              simp only
              generalize ((if L.isEmpty then #[none] else #[]) ++ (L ++ #[]).map some : Array (Option MapEntry))[i]? = c
              rcases c with _ | _ | c <;> rfl
          split at he
          · -- nothing is left
            simp only [entsR] at k3
            have hLe : L = #[] := Array.toList_eq_nil_iff.1 k3
            subst hLe
            refine over _ _ rfl ?_ (Option.some.inj he)
            rw [hrun]
            have hc : ((if (#[] : Array MapEntry).isEmpty then #[none] else #[]) ++ ((#[] : Array MapEntry) ++ #[]).map some : Array (Option MapEntry)) = #[none] := by simp
            rw [hc]
            simp [choose, Sem.run, Question.forced, Result.andThen]
          · rename_i hne
            obtain rfl := Option.some.inj he
            have hLne : L.isEmpty = false := by
              cases hem : L.isEmpty with
              | false => rfl
              | true =>
                have : L.toList = [] := by simpa using hem
                rw [this] at hlen
                exact absurd (List.length_eq_zero_iff.1 hlen.symm) (fun hh => hne (by rw [hh]))
            rw [hLne] at hrun
            have hpos : 0 < L.size := by
              rcases Nat.eq_zero_or_pos L.size with hz | hz
              · have : L = #[] := Array.eq_empty_of_size_eq_zero hz
                rw [this] at hLne; cases hLne
              · exact hz
            have hcand : ((if false = true then #[none] else #[]) ++ (L ++ #[]).map some : Array (Option MapEntry)) = L.map some := by simp
            rw [hcand] at hrun
            obtain ⟨i, d, hi, hch⟩ := run_mapNext (P := P) (L.map some).size (by simpa using hpos) w
            rw [hch] at hrun
            have hi' : i < L.size := by simpa using hi
            have hiL : L.toList[i]? = some L[i] := by simp [hi']
            simp only [Result.andThen, Array.getElem?_map, Array.getElem?_eq_getElem hi', Option.map_some] at hrun
            have h4' : ({ w with drawn := d } : World).heap[g.mu r]? = some (.mapIter (some (g.mu m)) last seen last) := h4
            rw [Sem.run_bind, run_setObj h4' (by simp)] at hrun
            simp only [Result.andThen, Sem.run_pure] at hrun
            -- the abstract entry
            have hil : i < left.length := by rw [← hlen, Array.length_toList]; exact hi'
            obtain ⟨kv, hkv⟩ : ∃ kv, left[i]? = some kv := ⟨left[i], by simp [hil]⟩
            obtain ⟨ka, va⟩ := kv
            obtain ⟨en, hen, hk, hv⟩ := entsR_get k3 hkv
            rw [hiL] at hen
            obtain rfl := Option.some.inj hen
            refine ⟨{ v := .tup [.bool true, ka, va], rd := [r, m], wr := [(r, .iter (some m) ver (left.eraseIdx i) (some (ka, va)))] }, ?_, ?_⟩
            · refine List.mem_map.2 ⟨((ka, va), left.eraseIdx i), ?_, rfl⟩
              have := picks_get left [] i
              rw [hkv] at this
              exact List.mem_of_getElem? this
            · refine ⟨_, _, run_v hex hrun, g, ?_⟩
              have hmr : m ≠ r := fun hh => by subst hh; rw [hg] at hgm; cases hgm
              have hne : ∀ j m' ver left cur, j < n → j ≠ r → get j = .iter (some m') ver left cur → m' = r → ∀ es ver', Blk.iter (some m) ver (left) cur = .map es ver' → ver < ver' := by
                intro j m' ver left cur _ _ _ _ es ver' hh; cases hh
              obtain ⟨hW, hE⟩ := (h.drew d).set_obj hr (by rw [hg]; rfl) (by rw [hg]; rfl) h4' (by simp) (ob' := .mapIter (some (g.mu m)) last (seen.push L[i].born) last) (by simp) (b := .iter (some m) ver (left.eraseIdx i) (some (ka, va))) rfl
                (fun j m' ver left cur _ _ _ _ es ver' hh => by cases hh) (fun e => by
                  refine ⟨h1, by rw [upd_ne _ _ hmr]; exact h2, h3, last, seen.push L[i].born, last, by simp [heap_lt h4], fun es'' ver'' hq => ?_, fun es'' hq => ?_⟩
                  · rw [upd_ne _ _ hmr, hgm] at hq; cases hq; exact Nat.le_refl _
                  · have hnq : g.mu r ≠ g.mu m := fun hh => hmr (h.inj m r h1 hr (by rw [hgm]; rfl) (by rw [hg]; rfl) hh.symm)
                    refine ⟨ents, by simp only; rw [Array.getElem?_setIfInBounds_ne hnq]; exact k1, rfl, ?_, ?_⟩
                    · have hfe : (ents.toList.filter fun x => !(seen.push L[i].born).contains x.born) = L.toList.eraseIdx i := by
                        have hnd : (L.toList.map (·.born)).Nodup := by
                          rw [hLl]
                          exact List.Nodup.sublist (List.Sublist.map _ List.filter_sublist) m3
                        rw [← filter_erase L.toList i L[i] hnd hiL, hLl, List.filter_filter]
                        apply List.filter_congr
                        intro x _
                        rw [Array.contains_push]
                        cases seen.contains x.born <;> cases (x.born == L[i].born) <;> rfl
                      rw [hfe]
                      exact entsR_mono e.I_le e.at_le (entsR_erase i k3)
                    · intro k v hc
                      obtain ⟨rfl, rfl⟩ := Prod.mk.inj (Option.some.inj hc)
                      refine ⟨L[i].born, L[i], by simp, ?_, e.vr hk, e.vr hv⟩
                      rw [← Array.find?_toList]
                      exact find_born _ _ m3 (by
                        have : L[i] ∈ L.toList := List.mem_of_getElem? hiL
                        rw [hLl] at this
                        exact (List.mem_filter.1 this).1))
                (fun es ver he => by rw [hg] at he; cases he)
              refine ⟨hW, (Ext.drew g get n w d).trans hE, ?_⟩
              have hE' := (Ext.drew g get n w d).trans hE
              simp only [vr, vrl]
              exact ⟨_, rfl, _, _, rfl, rfl, _, _, rfl, hE'.vr hk, _, _, rfl, hE'.vr hv, rfl⟩
        · cases he
      · cases he
    · cases he
  · cases he

end

theorem op_next {o : Oper} {y : Operand} (ho : o.op = .next y false) {cx : Cx} {s : St} {x : V} (hrd : rd s.regs y = some x) {es : List Eff} (hn : nextV s.h.get x = some es) : OpOk P o cx s (es.map fun e => (.normal, s.eff o e)) := by
  intro g a w K Q hS hcx hk hpn
  obtain ⟨e, he, z, w', hrun, hl⟩ := next_sound (P := P) (nid := s.h.n) hS.wr ho (rd_vr hS.rr hrd) hn
  obtain ⟨g', q1, q2⟩ := lands_state (o := o) hS hl
  refine ⟨fun f _ => fenceAt_fn g cx.round f, ?_⟩
  rw [Oper.semAt_eq _ _ _ (fun c' => by rw [ho]; exact Op.noConfusion), hrun]
  exact hk _ (List.mem_map.2 ⟨e, he, rfl⟩) g' _ w' q1 q2

theorem op_defer {o : Oper} {c : Call} (ho : o.op = .defer c) {cx : Cx} {s : St} (hr : cx.round = none) {d : D} (hd : deferV s.regs c = some d) : OpOk P o cx s [(.normal, { s with regs := put s.regs o.dst undefV, dfs := d :: s.dfs })] := by
  intro g a w K Q hS hcx hk hpn
  refine ⟨fun f _ => fenceAt_fn g cx.round f, ?_⟩
  rw [hr, show (fenceAt g none).round = none from rfl, Oper.semAt_none]
  unfold deferV at hd
  split at hd
  · rename_i f hcal
    split at hd
    · rename_i gf first cap args hf ha
      obtain rfl := Option.some.inj hd
      have hv := rd_vr hS.rr hf
      simp only [vr] at hv
      obtain ⟨f', a', c', e, h1, h2, h3⟩ := hv
      obtain rfl : f' = .func gf := h1
      have hrun : (execOp a.eval o).run P w = .ok (.defer { target := .fn (.func gf) c', args := a' ++ c.args.map a.eval }) w := by
        have hres : resolve a.eval c o.type = pure { target := .fn (.func gf) c', args := a' ++ c.args.map a.eval } := by
          unfold resolve
          rw [hcal]
          simp only [e, Deferred.ofValue]
        unfold execOp
        rw [ho]
        simp only [hres]
        rfl
      rw [hrun, Oper.uponIn_defer]
      refine hk _ (List.mem_singleton.2 rfl) g _ w ⟨hS.wf, ?_, hS.wr, ?_⟩ (Ext.refl _ _ _ _)
      · exact put_rr (a := { a with defers := _ :: a.defers }) hS.rr o.dst vr_undef
      · show dfR g s.h.get s.h.n (.call gf cap (first ++ args) :: s.dfs) _
        rw [put_defers]
        refine ⟨_, _, rfl, ⟨c', rfl, h3, ?_⟩, hS.df⟩
        rw [Array.toList_append]
        exact vrl_append h2 (map_toList hS.rr ha)
    · cases hd
  · cases hd

theorem op_panic {o : Oper} {y : Operand} (ho : o.op = .panic y) {cx : Cx} {s : St} {t : TypeId} {v : V} (hrd : rd s.regs y = some (.iface t v)) : OpOk P o cx s [(.pan (.iface t v), s)] := by
  intro g a w K Q hS hcx hk hpn
  refine ⟨fun f _ => fenceAt_fn g cx.round f, ?_⟩
  have hv := rd_vr hS.rr hrd
  have hv0 := hv
  simp only [vr] at hv
  obtain ⟨x, hx, _⟩ := hv
  have hrun : (execOp a.eval o).run P w = .halt (.panic (.iface t x)) w := by
    unfold execOp
    rw [ho]
    simp only [hx, Instr.panic]
    rfl
  rw [Oper.semAt_eq _ _ _ (fun c' => by rw [ho]; exact Op.noConfusion), hrun, Oper.uponIn_panic]
  rw [hx] at hv0
  exact hpn _ s (List.mem_singleton.2 rfl) g a w _ hS (Ext.refl _ _ _ _) hv0

/-- One operation in the order of the text. -/
theorem op1_sound {hint : Hint} {known : Known} {E : Ev} (hE : EvOk P E) (hK : KnOk P known) {fn : FuncId} {o : Oper} {cx : Cx} {s : St} {ss : List (Ex × St)} (hs : (op1 P hint known fn o).run E cx s = some ss) : OpOk P o cx s ss := by
  unfold op1 at hs
  split at hs
  · rename_i c ho
    split at hs
    · simp only at hs
      split at hs
      · rename_i e he
        obtain rfl := Option.some.inj hs
        exact op_exec (fun c' => by rw [ho]; exact Op.noConfusion) he
      · cases hs
    · simp only at hs
      cases hc : (calleeX P c).run s.regs with
      | none => rw [hc] at hs; cases hs
      | some t =>
        rw [hc] at hs
        cases t with
        | func f args => exact op_func hE hK ho hc hs
        | round l args => exact op_round hE ho hc hs
  · rename_i x ho
    simp only at hs
    split at hs
    · rename_i y hy
      split at hs
      · rename_i es hn
        obtain rfl := Option.some.inj hs
        exact op_next ho hy hn
      · cases hs
    · cases hs
  · rename_i x ho
    simp only at hs
    split at hs
    · rename_i t v hv
      obtain rfl := Option.some.inj hs
      exact op_panic ho hv
    · cases hs
  · rename_i c ho
    simp only at hs
    split at hs
    · rename_i d hr hd
      obtain rfl := Option.some.inj hs
      exact op_defer ho hr hd
    · cases hs
  · rename_i h1 h2 h4 h3
    simp only at hs
    split at hs
    · rename_i e he
      obtain rfl := Option.some.inj hs
      exact op_exec (fun c' hh => h3 c' hh) he
    · cases hs

end Go.Ae

/- The abstract evaluator: regions whose operations come in the order of the text. -/
namespace Go.Ae
variable {P : Program}

/-! ### Guards -/
theorem vr_bool {I : Imm} {A : At} {v : V} {b : Bool} (h : vr I A v (.bool b)) : v = .bool b := by
  cases v <;> simp only [vr] at h
  case bool c => rw [Value.bool.inj h]
  all_goals first
    | (cases h; done)
    | (obtain ⟨_, h⟩ := h; cases h; done)
    | (obtain ⟨_, h, _⟩ := h; cases h; done)
    | (obtain ⟨_, _, h, _⟩ := h; cases h; done)
    | (obtain ⟨_, _, _, h, _⟩ := h; cases h; done)

theorem want_sound {I : Imm} {A : At} {regs : T V} {a : Act} (hR : RR I A regs a.tmps) (all : Array Oper) (o : Oper) : Region.wanted o (yielded all a.tmps) = (wantX all o).run regs := by
  unfold Region.wanted wantX
  cases o.guard with
  | none => rfl
  | some gw =>
    obtain ⟨j, want⟩ := gw
    simp only
    unfold yielded
    cases hd : (all[j]?).bind (·.dst) with
    | none => simp
    | some d =>
      simp only [Option.bind_some]
      have hv := hR.val d
      cases ht : a.tmps[d]? with
      | none =>
        rw [Array.getD_eq_getD_getElem?, ht] at hv
        simp only [Option.getD_none] at hv
        cases hg : regs.get undefV d with
        | bool b => rw [hg] at hv; simp [vr, undef] at hv
        | _ => rfl
      | some x =>
        rw [Array.getD_eq_getD_getElem?, ht] at hv
        simp only [Option.getD_some] at hv
        cases x with
        | bool b =>
          have := vr_bool hv
          rw [this]
          simp only
          cases b <;> cases want <;> rfl
        | _ =>
          cases hg : regs.get undefV d with
          | bool b => rw [hg] at hv; simp [vr] at hv
          | _ => rfl

/-! ### Lists of what may come -/
theorem bindO_mem {α β : Type} {f : α → Option (List β)} : ∀ {l : List α} {out : List β}, bindO f l = some out → ∀ x ∈ l, ∃ ys, f x = some ys ∧ ∀ y ∈ ys, y ∈ out
  | [], _, _, x, hx => by cases hx
  | [a], out, h, x, hx => by
    obtain rfl := List.mem_singleton.1 hx
    exact ⟨out, h, fun y hy => hy⟩
  | a :: b :: l, out, h, x, hx => by
    simp only [bindO] at h
    cases h1 : f a with
    | none => simp [h1] at h
    | some ys =>
      cases h2 : bindO f (b :: l) with
      | none => simp [h1, h2] at h
      | some zs =>
        simp only [h1, h2, Option.some.injEq] at h
        subst h
        rcases List.mem_cons.1 hx with rfl | hm
        · exact ⟨ys, h1, fun y hy => List.mem_append_left _ hy⟩
        · obtain ⟨ws, q1, q2⟩ := bindO_mem h2 x hm
          exact ⟨ws, q1, fun y hy => List.mem_append_right _ (q2 y hy)⟩

/-! ### The operations of a region -/
theorem cxOk.same {cx : Cx} {s s' : St} (h : cxOk cx s) (e : s'.h = s.h) : cxOk cx s' := fun l hl => by rw [e]; exact h l hl

theorem opsV_sound {hint : Hint} {known : Known} {E : Ev} (hE : EvOk P E) (hK : KnOk P known) {fn : FuncId} {all : Array Oper} {cx : Cx} {Q : Exit → Act → World → Prop} {F : Fence} :
    ∀ (l : List Oper) (k : Nat) (s : St) (ss : List (Ex × St)), l = all.toList.drop k → (opsV P hint known fn all l).run E cx s = some ss →
      ∀ (g : G) (a : Act) (w : World), SR g s a w → cxOk cx s → F = fenceAt g cx.round →
        (∀ r ∈ ss, ∀ g' a' w' e, exR g' r.2.h r.1 e → SR g' r.2 a' w' → Ext2 g s.h w g' r.2.h w' → Q e a' w') → wpOpsIn F 0 P all Q (List.range' k l.length) a w
  | [], k, s, ss, _, hs, g, a, w, hS, _, _, hk => by
    have hs : some [(Ex.normal, s)] = some ss := hs
    obtain rfl := Option.some.inj hs
    exact hk (.normal, s) (List.mem_singleton.2 rfl) g a w .normal rfl hS (Ext.refl _ _ _ _)
  | o :: l, k, s, ss, hl, hs, g, a, w, hS, hcx, hF, hk => by
    have hko : all[k]? = some o := by
      rw [← Array.getElem?_toList]
      have : (all.toList.drop k)[0]? = some o := by rw [← hl]; rfl
      rw [List.getElem?_drop] at this; exact this
    have hl' : l = all.toList.drop (k + 1) := by
      have : (all.toList.drop k).tail = l := by rw [← hl]; rfl
      rw [← this, List.tail_drop]
    simp only [List.length_cons, List.range'_succ, wpOpsIn, hko]
    rw [want_sound hS.rr all o]
    have hs : (if (wantX all o).run s.regs then
      match (op1 P hint known fn o).run E cx s with
      | some [(.normal, s)] => (opsV P hint known fn all l).run E cx s
      | some rs => bindO (fun r => match r.1 with
        | .normal => (opsV P hint known fn all l).run E cx r.2
        | _ => some [r]) rs
      | none => none
    else (opsV P hint known fn all l).run E cx { s with regs := put s.regs o.dst undefV }) = some ss := hs
    split at hs
    · rename_i hw
      rw [if_pos hw]
      cases hop : (op1 P hint known fn o).run E cx s with
      | none => simp [hop] at hs
      | some ss1 =>
        have hb : ∀ r1 ∈ ss1, (r1.1 = .normal ∧ ∃ ys, (opsV P hint known fn all l).run E cx r1.2 = some ys ∧ ∀ y ∈ ys, y ∈ ss) ∨ (r1.1 ≠ .normal ∧ r1 ∈ ss) := by
          rw [hop] at hs
          have many : ∀ ss1, bindO (fun r : Ex × St => match r.1 with | .normal => (opsV P hint known fn all l).run E cx r.2 | _ => some [r]) ss1 = some ss →
              ∀ r1 ∈ ss1, (r1.1 = .normal ∧ ∃ ys, (opsV P hint known fn all l).run E cx r1.2 = some ys ∧ ∀ y ∈ ys, y ∈ ss) ∨ (r1.1 ≠ .normal ∧ r1 ∈ ss) := by
            intro ss1 hb r1 h1
            obtain ⟨ys, q1, q2⟩ := bindO_mem hb r1 h1
            obtain ⟨x, s1⟩ := r1
            cases x with
            | normal => exact .inl ⟨rfl, ys, q1, q2⟩
            | _ => exact .inr ⟨by simp, q2 _ (by obtain rfl := Option.some.inj q1; exact List.mem_singleton.2 rfl)⟩
          split at hs
          · rename_i s1 heq
            obtain rfl := Option.some.inj heq
            intro r1 h1
            obtain rfl := List.mem_singleton.1 h1
            exact .inl ⟨rfl, ss, hs, fun y hy => hy⟩
          · rename_i rs _ heq
            obtain rfl := Option.some.inj heq
            exact many _ hs
          · rename_i heq; cases heq
        rw [hF]
        refine op1_sound hE hK hop g a w _ _ hS hcx ?_ ?_
        · intro s1 h1 g1 a1 w1 hS1 hE1
          rcases hb _ h1 with ⟨_, ys, hy1, hy2⟩ | ⟨hne, _⟩
          · refine opsV_sound hE hK l (k + 1) s1 ys hl' hy1 g1 a1 w1 hS1 (hcx.ext hE1) (fenceAt_ext hcx hE1).symm ?_
            intro r hr g' a' w' e hx hS' hE'
            exact hk r (hy2 r hr) g' a' w' e hx hS' (Ext.trans hE1 hE')
          · exact absurd rfl hne
        · intro v s1 h1 g1 a1 w1 x hS1 hE1 hv
          rcases hb _ h1 with ⟨hne, _⟩ | ⟨_, hm⟩
          · cases hne
          · exact hk _ hm g1 a1 w1 _ ⟨x, rfl, hv⟩ hS1 hE1
    · rename_i hw
      rw [if_neg hw]
      refine ⟨fun f _ => by rw [hF]; exact fenceAt_fn g cx.round f, ?_⟩
      refine opsV_sound hE hK l (k + 1) _ ss hl' hs g _ w ⟨hS.wf, put_rr hS.rr o.dst vr_undef, hS.wr, by rw [put_defers]; exact hS.df⟩ (hcx.same rfl) hF ?_
      exact hk

end Go.Ae

/- The abstract evaluator: what is no longer written; code whose operations come in the order of the text. -/
namespace Go.Ae
variable {P : Program}

/-! ### A slice that is no longer written -/
section
variable {g : G} {h : H} {w : World}

theorem fixAt_sound (hwf : h.wf) (hW : WR g h.get h.n w) {p : V} {x : Value} (hp : vr g.I (g.at h.get h.n) p x) {h' : H} (he : fixAt h p = some h') :
    ∃ g', h'.wf ∧ WR g' h'.get h'.n w ∧ Ext g h.get h.n w g' h'.get h'.n w := by
  unfold fixAt at he
  split at he
  · rename_i r off
    simp only [vr] at hp
    obtain ⟨ad, rfl, hr, hrf, rfl⟩ := hp
    split at he
    · rename_i k cs hg
      split at he
      · rename_i r' off' len cap sz hcs
        split at he
        · cases he
        · rename_i hne
          split at he
          · rename_i k' ds hg'
            split at he
            · rename_i hcond
              obtain ⟨hlen, hk', hpure⟩ := hcond
              obtain rfl := Option.some.inj he
              -- the machine's blocks
              have hb := hW.blk r hr
              rw [hg] at hb
              obtain ⟨c, el, a1, a2, a3, a4, a5⟩ := hb
              obtain ⟨xv, hxv, hxr⟩ := a4 off _ hcs
              simp only [vr] at hxr
              obtain ⟨ad, cap', rfl, hr', hrf', rfl, hlc, hcc, _, hts⟩ := hxr
              have hb' := hW.blk r' hr'
              rw [hg'] at hb'
              obtain ⟨c', el', b1, b2, b3, b4, b5⟩ := hb'
              have hmune : g.mu r ≠ g.mu r' := fun hh => hne (hW.inj r r' hr hr' (by rw [hg]; rfl) (by rw [hg']; rfl) hh).symm
              -- what lies there
              obtain ⟨xs, hxs1, hxs2⟩ : ∃ xs : List Value, vrl g.I (g.at h.get h.n) ds xs ∧ ∀ (i : Nat) (y : Value), xs[i]? = some y → c'[g.base r' + i]? = some y := by
                refine ⟨(c'.toList.drop (g.base r')).take ds.length, vrl_of_get ?_ ?_, ?_⟩
                · have hcl : c'.toList.length = c'.size := Array.length_toList
                  rw [List.length_take, List.length_drop]; omega
                · intro i v hv
                  obtain ⟨y, q1, q2⟩ := b4 i v hv
                  have hi := (List.getElem?_eq_some_iff.1 hv).1
                  refine ⟨y, ?_, q2⟩
                  rw [List.getElem?_take_of_lt hi, List.getElem?_drop, Array.getElem?_toList]; exact q1
                · intro i y hy
                  rw [List.getElem?_take] at hy
                  split at hy
                  · rw [List.getElem?_drop, Array.getElem?_toList] at hy; exact hy
                  · cases hy
              have hys := vrl_drop hxs1 off'
              have hys' := vrl_pure hpure (vrl_seals hys)
              have hylen : (xs.drop off').length = len * sz := by
                rw [List.length_drop, vrl_len hxs1]; omega
              generalize hyd : xs.drop off' = ys at hys hys' hylen
              have hycell : ∀ (i : Nat) (y : Value), ys[i]? = some y → c'[g.base r' + off' + i]? = some y := fun i y hy => by
                rw [← hyd, List.getElem?_drop] at hy
                have := hxs2 _ _ hy
                rwa [Nat.add_assoc]
              -- the new state
              let g' : G := ({ g with I := immAt g.I (g.mu r') (g.base r' + off') ys } : G).put h.n (g.mu r') (g.base r' + off' + len * sz) (g.ts r')
              have hwf1 := H.wf_set hwf r (.row k (cs.set off (.vs (V.seals (ds.drop off')) len sz (.tok h.n len))))
              have hwf2 := H.wf_set hwf1 r' .gone
              have hwf3 := H.wf_new hwf2 (.tok len)
              have hn : (((h.set r (.row k (cs.set off (.vs (V.seals (ds.drop off')) len sz (.tok h.n len))))).set r' .gone).new (.tok len)).n = h.n + 1 := rfl
              have hget : ∀ j, (((h.set r (.row k (cs.set off (.vs (V.seals (ds.drop off')) len sz (.tok h.n len))))).set r' .gone).new (.tok len)).get j = if j = h.n then .tok len else if j = r' then .gone else if j = r then .row k (cs.set off (.vs (V.seals (ds.drop off')) len sz (.tok h.n len))) else h.get j := by
                intro j
                rw [H.get_new hwf2]
                show (if j = h.n then _ else _) = _
                split
                · rfl
                · rw [H.get_set hwf1]
                  show (if j = r' ∧ r' < h.n then _ else _) = _
                  by_cases hj : j = r'
                  · rw [if_pos ⟨hj, hr'⟩, if_pos hj]
                  · rw [if_neg (fun hh => hj hh.1), if_neg hj, H.get_set hwf]
                    by_cases hj2 : j = r
                    · rw [if_pos ⟨hj2, hr⟩, if_pos hj2]
                    · rw [if_neg (fun hh => hj2 hh.1), if_neg hj2]
              generalize hh' : ((h.set r (.row k (cs.set off (.vs (V.seals (ds.drop off')) len sz (.tok h.n len))))).set r' .gone).new (.tok len) = h' at hwf3 hn hget
              have gr : h'.get r = .row k (cs.set off (.vs (V.seals (ds.drop off')) len sz (.tok h.n len))) := by
                rw [hget, if_neg (by omega), if_neg (Ne.symm hne), if_pos rfl]
              have gr' : h'.get r' = .gone := by rw [hget, if_neg (by omega), if_pos rfl]
              have gn : h'.get h.n = .tok len := by rw [hget, if_pos rfl]
              have hmu : ∀ j, j ≠ h.n → g'.mu j = g.mu j := fun j hj => if_neg hj
              have hbase : ∀ j, j ≠ h.n → g'.base j = g.base j := fun j hj => if_neg hj
              have hts' : ∀ j, j ≠ h.n → g'.ts j = g.ts j := fun j hj => if_neg hj
              have nmu : g'.mu h.n = g.mu r' := if_pos rfl
              have nbase : g'.base h.n = g.base r' + off' + len * sz := if_pos rfl
              have nts : g'.ts h.n = g.ts r' := if_pos rfl
              have hIle : g.I.le g'.I := immAt_le fun o y hy h1 h2 => by
                have := hW.imm _ _ _ hy
                unfold World.cell? at this
                rw [b1] at this
                have hlt : o - (g.base r' + off') < ys.length := by omega
                have hc := hycell _ _ (List.getElem?_eq_getElem hlt)
                rw [show g.base r' + off' + (o - (g.base r' + off')) = o by omega] at hc
                rw [List.getElem?_eq_getElem hlt, ← hc]
                simpa using this
              have hcell : ∀ o y, g'.I (g.mu r') o = some y → w.cell? ⟨g.mu r', o, none⟩ = some y := fun o y hy => by
                rcases immAt_cases hy with hy | ⟨_, i, rfl, hi⟩
                · exact hW.imm _ _ _ hy
                · have := hycell i y hi
                  unfold World.cell?
                  rw [b1]
                  simpa using this
              refine ⟨g', hwf3, ?_⟩
              rw [hn]
              refine WR.go (fun j => j = r ∨ j = r' ∨ j = h.n) (fun b => b = g.mu r') hW (by omega) ?_ ?_ (Nat.le_refl _) (fun _ _ _ => rfl) ?_ hIle ?_ ?_ ?_ ?_ ?_ ?_ ?_ ?_ rfl rfl rfl ?_ ?_
              · intro j hj hc
                have h1 : j ≠ h.n := by omega
                refine ⟨?_, hmu j h1, hbase j h1, hts' j h1⟩
                rw [hget, if_neg h1, if_neg (fun hh => hc (.inr (.inl hh))), if_neg (fun hh => hc (.inl hh))]
              · intro j h1 h2; exact .inr (.inr (by omega))
              · intro b _ hd; exact ⟨r', hr', .inr (.inl rfl), by rw [hg']; rfl, hd.symm⟩
              · intro b o y hy
                rcases immAt_cases hy with hy | ⟨rfl, _⟩
                · exact .inl hy
                · exact .inr (.inr rfl)
              · intro b o y hy hd
                rcases hd with hd | rfl
                · rcases immAt_cases hy with hy | ⟨rfl, _⟩
                  · exact hW.imm _ _ _ hy
                  · exact absurd (heap_lt b1) (by omega)
                · exact hcell o y hy
              · intro j hj hc hfm
                have h1 : j ≠ h.n := by omega
                refine ⟨?_, hmu j h1, hbase j h1, hts' j h1⟩
                rcases hc with rfl | rfl | rfl
                · rw [gr]; rfl
                · rw [gr']; rfl
                · exact absurd rfl h1
              · intro j hj hc hk
                rcases hc with rfl | rfl | rfl
                · rw [gr]; simp
                · rw [gr']; simp
                · omega
              · intro j hj hc hw1 hw2 e1 e2
                rcases hc with rfl | rfl | rfl
                · rw [hg] at e1; cases e1
                · rw [hg'] at e1; cases e1
                · omega
              · intro j hj hc hl
                rcases hc with rfl | rfl | rfl
                · exact .inr ⟨j, hr, .inl rfl, by rw [hg]; rfl, (hmu j (by omega)).symm⟩
                · rw [gr'] at hl; cases hl
                · exact .inr ⟨r', hr', .inr (.inl rfl), by rw [hg']; rfl, nmu.symm⟩
              · intro j j' hj hj' hc hc' hl hl' hm
                rcases hc with rfl | rfl | rfl
                · rcases hc' with rfl | rfl | rfl
                  · rfl
                  · rw [gr'] at hl'; cases hl'
                  · rw [hmu _ (by omega), nmu] at hm; exact absurd hm hmune
                · rw [gr'] at hl; cases hl
                · rcases hc' with rfl | rfl | rfl
                  · rw [hmu j' (by omega), nmu] at hm; exact absurd hm.symm hmune
                  · rw [gr'] at hl'; cases hl'
                  · rfl
              · intro j m ver left cur hj hc hgj hcm es ver' hem
                rcases hcm with rfl | rfl | rfl
                · rw [gr] at hem; cases hem
                · rw [gr'] at hem; cases hem
                · rw [gn] at hem; cases hem
              · intro e j hj hc
                rcases hc with rfl | rfl | rfl
                · rw [gr]
                  refine ⟨c, el, by rw [hmu j (by omega)]; exact a1, by rw [hts' j (by omega)]; exact a2, by rw [hbase j (by omega), List.length_set]; exact a3, ?_, ?_⟩
                  · intro i v hv
                    rw [hbase j (by omega)]
                    rw [List.getElem?_set] at hv
                    split at hv
                    · rename_i hi
                      subst hi
                      split at hv
                      · obtain rfl := Option.some.inj hv
                        refine ⟨_, hxv, ?_⟩
                        simp only [vr]
                        refine ⟨g.mu r', g.base r' + off', cap', rfl, by omega, ?_, ?_, ?_⟩
                        · rw [← vrl_len hys']; exact hylen
                        · exact vra_of_vals (vrl_mono hIle (At.le_refl _) hys') fun i y hy => immAt_in hy
                        · refine ⟨by omega, by rw [gn]; simp, fun hw hq => ?_⟩
                          rw [gn] at hq
                          obtain rfl := Blk.tok.inj hq
                          exact ⟨Nat.le_refl _, fun _ => ⟨nmu.symm, nbase.symm, by rw [nts]; exact hts⟩⟩
                      · cases hv
                    · obtain ⟨y, q1, q2⟩ := a4 i v hv
                      exact ⟨y, q1, by rw [← hn] at e ⊢; exact e.vr q2⟩
                  · intro o ho
                    rw [hbase j (by omega)] at ho
                    rw [hmu j (by omega)]
                    have := a5 o ho
                    show immAt _ _ _ _ _ _ = none
                    unfold immAt
                    rw [if_neg (fun hh => hmune hh.1)]; exact this
                · rw [gr']; trivial
                · rw [gn]
                  refine ⟨c', el', by rw [nmu]; exact b1, by rw [nts]; exact b2, by rw [nbase]; omega, fun o ho => ?_⟩
                  rw [nbase] at ho
                  rw [nmu]
                  show immAt _ _ _ _ _ _ = none
                  unfold immAt
                  rw [if_neg (by rw [hylen]; omega)]
                  exact b5 o (by omega)
              · intro j hj hc es ver e1
                rcases hc with rfl | rfl | rfl
                · rw [hg] at e1; cases e1
                · rw [hg'] at e1; cases e1
                · omega
            · cases he
          · cases he
      · cases he
    · cases he
  · cases he

end

theorem fixAll_sound {I0 : Unit} : ∀ (ts : List Tmp) {g : G} {s : St} {a : Act} {w : World} {h' : H}, SR g s a w → fixAll s.regs ts s.h = some h' → ∃ g', SR g' { s with h := h' } a w ∧ Ext2 g s.h w g' h' w
  | [], g, s, a, w, h', hS, he => by
    obtain rfl := Option.some.inj he
    exact ⟨g, hS, Ext.refl _ _ _ _⟩
  | t :: ts, g, s, a, w, h', hS, he => by
    simp only [fixAll] at he
    split at he
    · rename_i h1 h1e
      obtain ⟨g1, q1, q2, q3⟩ := fixAt_sound hS.wf hS.wr (hS.rr.val t) h1e
      have hS1 : SR g1 { s with h := h1 } a w := ⟨q1, q3.rr hS.rr, q2, dfR_ext q3 hS.df⟩
      obtain ⟨g2, r1, r2⟩ := fixAll_sound (I0 := I0) ts hS1 he
      exact ⟨g2, r1, Ext.trans q3 r2⟩
    · cases he

theorem fixS_sound {hint : Hint} {cx : Cx} {id : Nat} {g : G} {s : St} {a : Act} {w : World} (hS : SR g s a w) {r : Ex × St} (he : fixS hint cx id s = some r) : r.1 = .normal ∧ ∃ g', SR g' r.2 a w ∧ Ext2 g s.h w g' r.2.h w := by
  unfold fixS at he
  split at he
  · obtain rfl := Option.some.inj he
    exact ⟨rfl, g, hS, Ext.refl _ _ _ _⟩
  · split at he
    · rename_i h1 h1e
      obtain rfl := Option.some.inj he
      exact ⟨rfl, fixAll_sound (I0 := ()) _ hS h1e⟩
    · cases he

/-- A region whose operations come in the order of the text. -/
theorem code_region {hint : Hint} {known : Known} {E : Ev} (hE : EvOk P E) (hK : KnOk P known) {fn : FuncId} {id : Nat} {ops : Array Oper} {cx : Cx} {s : St} {ss : List (Ex × St)} (hs : (opsV P hint known fn ops ops.toList).run E cx s = some ss) {outs : List (Ex × St)}
    (ho : allO (fun r : Ex × St => match r.1 with | .normal => fixS hint cx id r.2 | _ => some r) ss = some outs) : CodeOk P cx (.region id ops false) s outs := by
  intro g a w hS hcx
  refine wpIn_region ?_
  rw [List.range_eq_range', ← Array.length_toList]
  refine opsV_sound hE hK ops.toList 0 s ss rfl hs g a w hS hcx rfl ?_
  intro r0 hr0 g' a' w' e hx hS' hE'
  obtain ⟨r, hr, hf⟩ := allO_mem ho r0 hr0
  obtain ⟨x, s'⟩ := r0
  cases x with
  | normal =>
    obtain rfl : e = .normal := hx
    obtain ⟨h1, g2, h2, h3⟩ := fixS_sound hS' hf
    exact ⟨r, hr, g2, by rw [h1]; rfl, h2, Ext.trans hE' h3⟩
  | _ =>
    obtain rfl := Option.some.inj hf
    exact ⟨_, hr, g', hx, hS', hE'⟩

end Go.Ae
