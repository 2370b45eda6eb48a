/- The abstract evaluator without fuel: what it says with enough of it; its equations. -/
import Derived.Test.YtelobjfgghlkfaaGreatA7
import Derived.Test.YtelobjfgghlkfaaGreatA2
import GoSem.ClaimChange
import Derived.DataReads
import Derived.ChangeSlices
set_option linter.all false
noncomputable section
namespace Go.Ae
variable {P : Program}

/-- A filter of evaluators. -/
structure Fil (U : (Ev → Prop) → Prop) : Prop where
  top : ∀ {p : Ev → Prop}, (∀ E, p E) → U p
  and : ∀ {p q : Ev → Prop}, U p → U q → U fun E => p E ∧ q E
  mono : ∀ {p q : Ev → Prop}, (∀ E, p E → q E) → U p → U q

/-- What E says is said by those of the filter. -/
structure Tends (E : Ev) (U : (Ev → Prop) → Prop) : Prop where
  fil : Fil U
  call : ∀ {f args h o}, E.call f args h = some o → U fun E' => E'.call f args h = some o
  code : ∀ {cx c s o}, E.code cx c s = some o → U fun E' => E'.code cx c s = some o

section
variable {E : Ev} {U : (Ev → Prop) → Prop}

theorem allO_tends {α β : Type} {F : Ev → α → Option β} (hU : Tends E U) : ∀ {l : List α} {ys : List β}, (∀ x ∈ l, ∀ y, F E x = some y → U fun E' => F E' x = some y) → allO (F E) l = some ys → U fun E' => allO (F E') l = some ys
  | [], ys, _, h => hU.fil.top fun _ => h
  | x :: l, ys, hf, h => by
    simp only [allO] at h ⊢
    cases h1 : F E x with
    | none => simp [h1] at h
    | some y =>
      cases h2 : allO (F E) l with
      | none => simp [h1, h2] at h
      | some zs =>
        simp only [h1, h2] at h
        refine hU.fil.mono ?_ (hU.fil.and (hf x List.mem_cons_self y h1) (allO_tends hU (fun z hz => hf z (List.mem_cons_of_mem _ hz)) h2))
        rintro E' ⟨q1, q2⟩
        rw [q1, q2]; exact h

theorem bindO_tends {α β : Type} {F : Ev → α → Option (List β)} (hU : Tends E U) : ∀ {l : List α} {ys : List β}, (∀ x ∈ l, ∀ y, F E x = some y → U fun E' => F E' x = some y) → bindO (F E) l = some ys → U fun E' => bindO (F E') l = some ys
  | [], ys, _, h => hU.fil.top fun _ => h
  | [x], ys, hf, h => hf x List.mem_cons_self ys h
  | x :: y :: l, ys, hf, h => by
    simp only [bindO] at h
    cases h1 : F E x with
    | none => simp [h1] at h
    | some a =>
      cases h2 : bindO (F E) (y :: l) with
      | none => simp [h1, h2] at h
      | some b =>
        simp only [h1, h2] at h
        refine hU.fil.mono ?_ (hU.fil.and (hf x List.mem_cons_self a h1) (bindO_tends hU (fun z hz => hf z (List.mem_cons_of_mem _ hz)) h2))
        rintro E' ⟨q1, q2⟩
        simp only [bindO]
        rw [q1, q2]; exact h

variable {hint : Hint} {known : Known}

theorem round_tends (hU : Tends E U) {h : H} {l : Nat} {args : List V} {o : List (V × H)} (ho : roundE E h l args = some o) : U fun E' => roundE E' h l args = some o := by
  unfold roundE at ho ⊢
  split at ho
  · split at ho
    · rename_i hlen
      split at ho
      · rename_i s1 hc1
        split at ho
        · rename_i hg
          split at ho
          · rename_i outs hc2
            refine hU.fil.mono ?_ (hU.fil.and (hU.code hc1) (hU.code hc2))
            rintro E' ⟨q1, q2⟩
            rw [if_pos hlen, q1]
            simp only
            rw [hg]
            simp only
            rw [q2]
            exact ho
          · cases ho
        · cases ho
      · cases ho
    · cases ho
  · cases ho

theorem callP_tends (hU : Tends E U) {f : FuncId} {args : List V} {n : Nat} {o : List Eff} (ho : callP hint known E f args n = some o) : U fun E' => callP hint known E' f args n = some o := by
  unfold callP at ho ⊢
  split at ho
  · rename_i v hv
    exact hU.fil.top fun E' => ho
  · rename_i hv
    split at ho
    · rename_i outs hc
      refine hU.fil.mono ?_ (hU.call hc)
      intro E' q
      rw [q]; exact ho
    · cases ho

theorem callO_tends (hU : Tends E U) {op : Oper} {s : St} {c : Option Callee1} {o : List (Ex × St)} (ho : callO hint known E op s c = some o) : U fun E' => callO hint known E' op s c = some o := by
  unfold callO at ho ⊢
  split at ho
  · split at ho
    · rename_i hp
      cases hc : callP hint known E _ (V.seals _) s.h.n with
      | none => rw [hc] at ho; cases ho
      | some es =>
        refine hU.fil.mono ?_ (callP_tends hU hc)
        intro E' q
        rw [hc] at ho
        rw [if_pos hp, q]; exact ho
    · rename_i hp
      split at ho
      · rename_i outs hc
        refine hU.fil.mono ?_ (hU.call hc)
        intro E' q
        rw [if_neg hp, q]; exact ho
      · cases ho
  · split at ho
    · rename_i outs hc
      refine hU.fil.mono ?_ (round_tends hU hc)
      intro E' q
      rw [q]; exact ho
    · cases ho
  · cases ho

theorem op1_tends (hU : Tends E U) {fn : FuncId} {op : Oper} {cx : Cx} {s : St} {o : List (Ex × St)} (ho : (op1 P hint known fn op).run E cx s = some o) : U fun E' => (op1 P hint known fn op).run E' cx s = some o := by
  unfold op1 at ho ⊢
  split at ho
  · rename_i c hop
    split at ho
    · exact hU.fil.top fun E' => ho
    · exact callO_tends hU ho
  · exact hU.fil.top fun E' => ho
  · exact hU.fil.top fun E' => ho
  · exact hU.fil.top fun E' => ho
  · exact hU.fil.top fun E' => ho

theorem callD_tends (hU : Tends E U) {get : Nat → Blk} {n : Nat} {c : Option Callee1} {o : Eff} (ho : callD hint known E get n c = some o) : U fun E' => callD hint known E' get n c = some o := by
  unfold callD at ho ⊢
  split at ho
  · split at ho
    · rename_i hp
      cases hc : callP hint known E _ (V.seals _) n with
      | none => rw [hc] at ho; cases ho
      | some es =>
        refine hU.fil.mono ?_ (callP_tends hU hc)
        intro E' q
        rw [hc] at ho
        rw [if_pos hp, q]; exact ho
    · rename_i hp
      split at ho
      · rename_i rs hr
        split at ho
        · rename_i hb
          split at ho
          · rename_i v h1 hc
            refine hU.fil.mono ?_ (hU.call hc)
            intro E' q
            rw [if_neg hp, if_pos hb, q]
            exact ho
          · cases ho
        · cases ho
      · cases ho
  · cases ho

theorem opD_tends (hU : Tends E U) {fn : FuncId} {op : Oper} {regs : T V} {get : Nat → Blk} {n : Nat} {o : Eff} (ho : (opD P hint known fn op).run E regs get n = some o) : U fun E' => (opD P hint known fn op).run E' regs get n = some o := by
  unfold opD at ho ⊢
  split at ho
  · split at ho
    · exact hU.fil.top fun E' => ho
    · exact callD_tends hU ho
  · exact hU.fil.top fun E' => ho

theorem opsV_tends (hU : Tends E U) {fn : FuncId} {all : Array Oper} {cx : Cx} : ∀ (l : List Oper) {s : St} {o : List (Ex × St)}, (opsV P hint known fn all l).run E cx s = some o → U fun E' => (opsV P hint known fn all l).run E' cx s = some o
  | [], s, o, ho => hU.fil.top fun _ => ho
  | op :: l, s, o, ho => by
    have ho : (if (wantX all op).run s.regs then
      match (op1 P hint known fn op).run E cx s with
      | some [(.normal, s)] => (opsV P hint known fn all l).run E cx s
      | some rs => bindO (fun r => match r.1 with
        | .normal => (opsV P hint known fn all l).run E cx r.2
        | _ => some [r]) rs
      | none => none
    else (opsV P hint known fn all l).run E cx { s with regs := put s.regs op.dst undefV }) = some o := ho
    show U fun E' => (if (wantX all op).run s.regs then
      match (op1 P hint known fn op).run E' cx s with
      | some [(.normal, s)] => (opsV P hint known fn all l).run E' cx s
      | some rs => bindO (fun r => match r.1 with
        | .normal => (opsV P hint known fn all l).run E' cx r.2
        | _ => some [r]) rs
      | none => none
    else (opsV P hint known fn all l).run E' cx { s with regs := put s.regs op.dst undefV }) = some o
    by_cases hw : (wantX all op).run s.regs = true
    · rw [if_pos hw] at ho
      cases hop : (op1 P hint known fn op).run E cx s with
      | none => rw [hop] at ho; cases ho
      | some rs =>
        rw [hop] at ho
        have h1 := op1_tends hU hop
        split at ho
        · rename_i s1 heq
          obtain rfl := Option.some.inj heq
          refine hU.fil.mono ?_ (hU.fil.and h1 (opsV_tends hU l ho))
          rintro E' ⟨q1, q2⟩
          rw [if_pos hw, q1]; exact q2
        · rename_i rs' hne heq
          obtain rfl := Option.some.inj heq
          have h2 := bindO_tends (F := fun E' (r : Ex × St) => match r.1 with | .normal => (opsV P hint known fn all l).run E' cx r.2 | _ => some [r]) hU (fun r hr y hy => by
            obtain ⟨x, s1⟩ := r
            cases x with
            | normal => exact opsV_tends hU l hy
            | _ => exact hU.fil.top fun _ => hy) ho
          refine hU.fil.mono ?_ (hU.fil.and h1 h2)
          rintro E' ⟨q1, q2⟩
          rw [if_pos hw, q1]
          split
          · rename_i s1 heq; exact absurd (Option.some.inj heq) (hne s1)
          · rename_i heq; obtain rfl := Option.some.inj heq; exact q2
          · rename_i heq; cases heq
        · cases ho
    · rw [if_neg hw] at ho
      refine hU.fil.mono ?_ (opsV_tends hU l ho)
      intro E' q
      rw [if_neg hw]; exact q

theorem opsD_tends (hU : Tends E U) {fn : FuncId} {all : Array Oper} {bef : List Nat} : ∀ (l : List (Oper × Nat)) {dn : List (Nat × Foot)} {s s' : St}, (opsD P hint known fn all bef l).run E dn s = some s' → U fun E' => (opsD P hint known fn all bef l).run E' dn s = some s'
  | [], dn, s, s', ho => hU.fil.top fun _ => ho
  | (op, i) :: l, dn, s, s', ho => by
    have ho : (if (wantX all op).run s.regs then
      match (opD P hint known fn op).run E s.regs s.h.get s.h.n with
      | some e => match e with
        | ⟨v, [], [], [], false⟩ => (opsD P hint known fn all bef l).run E dn { s with regs := put s.regs op.dst v }
        | e => if dn.all (fun (j, f') => (bef.getD i 0).testBit j || (e.foot s.h.n).apart f') then (opsD P hint known fn all bef l).run E ((i, e.foot s.h.n) :: dn) (s.eff op e) else none
      | none => none
    else (opsD P hint known fn all bef l).run E dn { s with regs := put s.regs op.dst undefV }) = some s' := ho
    show U fun E' => (if (wantX all op).run s.regs then
      match (opD P hint known fn op).run E' s.regs s.h.get s.h.n with
      | some e => match e with
        | ⟨v, [], [], [], false⟩ => (opsD P hint known fn all bef l).run E' dn { s with regs := put s.regs op.dst v }
        | e => if dn.all (fun (j, f') => (bef.getD i 0).testBit j || (e.foot s.h.n).apart f') then (opsD P hint known fn all bef l).run E' ((i, e.foot s.h.n) :: dn) (s.eff op e) else none
      | none => none
    else (opsD P hint known fn all bef l).run E' dn { s with regs := put s.regs op.dst undefV }) = some s'
    by_cases hw : (wantX all op).run s.regs = true
    · rw [if_pos hw] at ho
      cases hop : (opD P hint known fn op).run E s.regs s.h.get s.h.n with
      | none => rw [hop] at ho; cases ho
      | some e =>
        rw [hop] at ho
        have h1 := opD_tends hU hop
        have h2 : U fun E' => (match (some e : Option Eff) with
          | some e => match e with
            | ⟨v, [], [], [], false⟩ => (opsD P hint known fn all bef l).run E' dn { s with regs := put s.regs op.dst v }
            | e => if dn.all (fun (j, f') => (bef.getD i 0).testBit j || (e.foot s.h.n).apart f') then (opsD P hint known fn all bef l).run E' ((i, e.foot s.h.n) :: dn) (s.eff op e) else none
          | none => none) = some s' := by
          clear hop h1
          simp only at ho ⊢
          split at ho
          · exact opsD_tends hU l ho
          · rename_i hne
            split at ho
            · rename_i hall
              refine hU.fil.mono ?_ (opsD_tends hU l ho)
              intro E' q
              exact (if_pos hall).trans q
            · cases ho
        refine hU.fil.mono ?_ (hU.fil.and h1 h2)
        rintro E' ⟨q1, q2⟩
        rw [if_pos hw, q1]; exact q2
    · rw [if_neg hw] at ho
      refine hU.fil.mono ?_ (opsD_tends hU l ho)
      intro E' q
      rw [if_neg hw]; exact q

theorem range_tends (hU : Tends E U) {cx : Cx} {s : St} {dfs : List D} {l : Nat} {r : R × H} {o : List (Ex × St)} (ho : rangeE E cx s dfs l r = some o) : U fun E' => rangeE E' cx s dfs l r = some o := by
  unfold rangeE at ho ⊢
  split at ho
  · exact hU.fil.top fun _ => ho
  · split at ho
    · split at ho
      · cases ho
      · rename_i hst
        try simp only at ho
        split at ho
        · refine hU.fil.top fun _ => ?_
          simp only
          rw [if_neg hst]; exact ho
        · refine hU.fil.mono ?_ (hU.code ho)
          intro E' q
          simp only
          rw [if_neg hst]; exact q
    · cases ho

theorem seq_tends (hU : Tends E U) {cx : Cx} {b : Code} {r : Option (List (Ex × St))} {o : List (Ex × St)} (ho : seqE E cx b r = some o) : U fun E' => seqE E' cx b r = some o := by
  unfold seqE at ho ⊢
  split at ho
  · exact hU.code ho
  · rename_i outs hne
    have h2 := bindO_tends (F := fun E' (r : Ex × St) => match r.1 with | .normal => E'.code cx b r.2 | _ => some [r]) hU (fun r hr y hy => by
      obtain ⟨x, s1⟩ := r
      cases x with
      | normal => exact hU.code hy
      | _ => exact hU.fil.top fun _ => hy) ho
    exact h2
  · cases ho

theorem defer_tends (hU : Tends E U) {f : FuncId} {xs : List V} {m : Option V} {h : H} {o : Option V × H} (ho : deferE P E f xs m h = some o) : U fun E' => deferE P E' f xs m h = some o := by
  unfold deferE at ho ⊢
  split at ho
  · rename_i fn hfn
    split at ho
    · rename_i id ops rest hb
      split at ho
      · rename_i o1 o2 hops
        split at ho
        · rename_i c b d1 d2 p1 p2 q1 q2
          split at ho
          · by_cases hcnd : (true && Nat.beq b d1 && o1.guard.isNone && o2.guard.isNone && Nat.beq fn.results.size 0 && Nat.ble xs.length fn.ntmps && Nat.blt fn.ntmps 1048576 && Nat.blt d1 fn.ntmps) = true
            · rw [if_pos hcnd] at ho
              simp only at ho
              cases hc : E.code { fn := f, round := none } rest { regs := ((setArgs xs 0 (T.fill undefV 20 fn.ntmps)).set d1 (m.getD .nilif)).set d2 (m.getD .nilif), dfs := [], h } with
              | none => rw [hc] at ho; cases ho
              | some outs =>
                rw [hc] at ho
                refine hU.fil.mono ?_ (hU.code hc)
                intro E' q
                rw [if_pos hcnd]
                simp only
                rw [q]; exact ho
            · rw [if_neg hcnd] at ho; cases ho
          · simp only [Bool.false_and, Bool.false_eq_true, if_false] at ho
            cases ho
        · cases ho
      · cases ho
    · cases ho
  · cases ho

theorem unwind_tends (hU : Tends E U) : ∀ (ds : List D) {m : Option V} {h : H} {o : Option V × H}, unwindE P known E ds m h = some o → U fun E' => unwindE P known E' ds m h = some o
  | [], m, h, o, ho => hU.fil.top fun _ => ho
  | .mark r :: ds, m, h, o, ho => by
    simp only [unwindE] at ho ⊢
    split at ho
    · exact unwind_tends hU ds ho
    · cases ho
  | .call f cap args :: ds, m, h, o, ho => by
    simp only [unwindE] at ho ⊢
    by_cases hc : (m.isNone && known.idle f) = true
    · rw [if_pos hc] at ho
      refine hU.fil.mono ?_ (unwind_tends hU ds ho)
      intro E' q
      rw [if_pos hc]; exact q
    · rw [if_neg hc] at ho
      split at ho
      · rename_i m1 h1 hd
        refine hU.fil.mono ?_ (hU.fil.and (defer_tends hU hd) (unwind_tends hU ds ho))
        rintro E' ⟨q1, q2⟩
        rw [if_neg hc, q1]; exact q2
      · cases ho

theorem end_tends (hU : Tends E U) {fn : Func} {r : Ex × St} {o : R × H} (ho : endE P known E fn r = some o) : U fun E' => endE P known E' fn r = some o := by
  have key : ∀ m, (match unwindE P known E r.2.dfs m r.2.h with
      | some (none, h) => match resultsV P fn { r.2 with h } with
        | some v => some (R.ret v, h)
        | none => none
      | some (some v, h) => some (R.pan v, h)
      | none => none) = some o → U fun E' => (match unwindE P known E' r.2.dfs m r.2.h with
      | some (none, h) => match resultsV P fn { r.2 with h } with
        | some v => some (R.ret v, h)
        | none => none
      | some (some v, h) => some (R.pan v, h)
      | none => none) = some o := by
    intro m h
    cases hu : unwindE P known E r.2.dfs m r.2.h with
    | none => rw [hu] at h; cases h
    | some p =>
      rw [hu] at h
      refine hU.fil.mono ?_ (unwind_tends hU _ hu)
      intro E' q
      rw [q]; exact h
  unfold endE at ho ⊢
  split at ho
  · cases ho
  · exact key _ ho

theorem code_tends (hU : Tends E U) {cx : Cx} {c : Code} {s : St} {o : List (Ex × St)} (ho : (codeX P hint known cx.fn c).run E cx s = some o) : U fun E' => (codeX P hint known cx.fn c).run E' cx s = some o := by
  unfold codeX at ho ⊢
  cases c with
  | skip => exact hU.fil.top fun _ => ho
  | label l => exact hU.fil.top fun _ => ho
  | exit id => exact hU.fil.top fun _ => ho
  | ret => exact hU.fil.top fun _ => ho
  | region id os draw =>
    dsimp only at ho ⊢
    cases draw with
    | true =>
      simp only [if_true] at ho ⊢
      by_cases hr : regOk os = true
      · rw [if_pos hr] at ho
        simp only [if_pos hr]
        simp only at ho
        cases h1 : (opsD P hint known cx.fn os (Region.before os).toList os.toList.zipIdx).run E [] s with
        | none => rw [h1] at ho; cases ho
        | some s1 =>
          rw [h1] at ho
          refine hU.fil.mono ?_ (opsD_tends hU _ h1)
          intro E' q
          rw [q]; exact ho
      · rw [if_neg hr] at ho; cases ho
    | false =>
      simp only [Bool.false_eq_true, if_false] at ho ⊢
      cases h1 : (opsV P hint known cx.fn os os.toList).run E cx s with
      | none => rw [h1] at ho; cases ho
      | some ss =>
        rw [h1] at ho
        refine hU.fil.mono ?_ (opsV_tends hU _ h1)
        intro E' q
        rw [q]; exact ho
  | seq a b =>
    dsimp only at ho ⊢
    cases h1 : E.code cx a s with
    | none => rw [h1] at ho; cases ho
    | some outs =>
      rw [h1] at ho
      refine hU.fil.mono ?_ (hU.fil.and (hU.code h1) (seq_tends hU ho))
      rintro E' ⟨q1, q2⟩
      rw [q1]; exact q2
  | cond c a b =>
    dsimp only at ho ⊢
    split at ho
    · rename_i hr
      refine hU.fil.mono ?_ (hU.code ho)
      intro E' q; exact q
    · rename_i hr
      refine hU.fil.mono ?_ (hU.code ho)
      intro E' q; exact q
    · cases ho
  | block id b =>
    dsimp only at ho ⊢
    cases h1 : E.code cx b s with
    | none => rw [h1] at ho; cases ho
    | some outs =>
      rw [h1] at ho
      refine hU.fil.mono ?_ (hU.code h1)
      intro E' q
      rw [q]; exact ho
  | loop b =>
    dsimp only at ho ⊢
    cases h1 : E.code cx b s with
    | none => rw [h1] at ho; cases ho
    | some outs =>
      rw [h1] at ho
      refine hU.fil.mono ?_ (hU.fil.and (hU.code h1) (seq_tends hU ho))
      rintro E' ⟨q1, q2⟩
      rw [q1]; exact q2
  | scope b => exact hU.code ho
  | rangeFunc f ps asg body =>
    dsimp only at ho ⊢
    split at ho
    · rename_i d dfs h1 g first cap hra hf
      split at ho
      · rename_i couts hc
        have h2 := bindO_tends (F := fun E' r => rangeE E' cx s dfs h1.n r) hU (fun r _ y hy => range_tends hU hy) ho
        refine hU.fil.mono ?_ (hU.fil.and (hU.call hc) h2)
        rintro E' ⟨q1, q2⟩
        rw [q1]; exact q2
      · cases ho
    · cases ho
  | _ => cases ho

theorem func_tends (hU : Tends E U) {f : FuncId} {args : List V} {h : H} {o : List (R × H)} (ho : (funcX P known f).run E args h = some o) : U fun E' => (funcX P known f).run E' args h = some o := by
  unfold funcX at ho ⊢
  split at ho
  · cases ho
  · rename_i fn hfn
    split at ho
    · cases ho
    · rename_i c hc
      try simp only at ho
      split at ho
      · rename_i hcond
        split at ho
        · rename_i couts hco
          have h2 := allO_tends (F := fun E' r => endE P known E' fn r) hU (fun r _ y hy => end_tends hU hy) ho
          refine hU.fil.mono ?_ (hU.fil.and (hU.code hco) h2)
          rintro E' ⟨q1, q2⟩
          refine (if_pos hcond).trans ?_
          rw [q1]; exact q2
        · cases ho
      · cases ho

end

/-! ### With enough fuel -/
section
variable (P : Program) (hint : Hint) (known : Known)

theorem fil_one (E : Ev) : Fil (fun p => p E) := ⟨fun h => h E, fun a b => ⟨a, b⟩, fun h a => h E a⟩

theorem ev_succ : ∀ n, Tends (ev P hint known n) (fun p => p (ev P hint known (n + 1)))
  | 0 => ⟨fil_one _, fun h => (by cases h), fun h => (by cases h)⟩
  | n + 1 => ⟨fil_one _, fun h => func_tends (ev_succ n) h, fun h => code_tends (ev_succ n) h⟩

theorem ev_le {n m : Nat} (h : n ≤ m) : Tends (ev P hint known n) (fun p => p (ev P hint known m)) := by
  induction m with
  | zero => obtain rfl : n = 0 := by omega
            exact ⟨fil_one _, fun h => h, fun h => h⟩
  | succ m ih =>
    by_cases hn : n = m + 1
    · subst hn; exact ⟨fil_one _, fun h => h, fun h => h⟩
    · have h1 := ih (by omega)
      exact ⟨fil_one _, fun h => (ev_succ P hint known m).call (h1.call h), fun h => (ev_succ P hint known m).code (h1.code h)⟩

open Classical in
/-- The evaluator without fuel. -/
noncomputable def EV : Ev where
  code cx c s := if h : ∃ o n, (ev P hint known n).code cx c s = some o then some h.choose else none
  call f args h := if h : ∃ o n, (ev P hint known n).call f args h = some o then some h.choose else none

theorem EV_call {f : FuncId} {args : List V} {h : H} {o : List (R × H)} : (EV P hint known).call f args h = some o ↔ ∃ n, (ev P hint known n).call f args h = some o := by
  unfold EV
  simp only
  constructor
  · intro hh
    split at hh
    · rename_i hex
      obtain rfl := Option.some.inj hh
      exact hex.choose_spec
    · cases hh
  · rintro ⟨n, hn⟩
    have hex : ∃ o n, (ev P hint known n).call f args h = some o := ⟨o, n, hn⟩
    rw [dif_pos hex]
    obtain ⟨m, hm⟩ := hex.choose_spec
    have h1 := (ev_le P hint known (Nat.le_max_left n m)).call hn
    have h2 := (ev_le P hint known (Nat.le_max_right n m)).call hm
    exact h2.symm.trans h1

theorem EV_code {cx : Cx} {c : Code} {s : St} {o : List (Ex × St)} : (EV P hint known).code cx c s = some o ↔ ∃ n, (ev P hint known n).code cx c s = some o := by
  unfold EV
  simp only
  constructor
  · intro hh
    split at hh
    · rename_i hex
      obtain rfl := Option.some.inj hh
      exact hex.choose_spec
    · cases hh
  · rintro ⟨n, hn⟩
    have hex : ∃ o n, (ev P hint known n).code cx c s = some o := ⟨o, n, hn⟩
    rw [dif_pos hex]
    obtain ⟨m, hm⟩ := hex.choose_spec
    have h1 := (ev_le P hint known (Nat.le_max_left n m)).code hn
    have h2 := (ev_le P hint known (Nat.le_max_right n m)).code hm
    exact h2.symm.trans h1

theorem EV_tends : Tends (EV P hint known) (fun p => ∃ n, ∀ m, n ≤ m → p (ev P hint known m)) where
  fil := ⟨fun h => ⟨0, fun m _ => h _⟩, fun ⟨a, ha⟩ ⟨b, hb⟩ => ⟨max a b, fun m hm => ⟨ha m (by omega), hb m (by omega)⟩⟩, fun h ⟨a, ha⟩ => ⟨a, fun m hm => h _ (ha m hm)⟩⟩
  call h := by
    obtain ⟨n, hn⟩ := (EV_call P hint known).1 h
    exact ⟨n, fun m hm => (ev_le P hint known hm).call hn⟩
  code h := by
    obtain ⟨n, hn⟩ := (EV_code P hint known).1 h
    exact ⟨n, fun m hm => (ev_le P hint known hm).code hn⟩

/-- Code, by its equation. -/
theorem EV_code_eq {cx : Cx} {c : Code} {s : St} {o : List (Ex × St)} (h : (codeX P hint known cx.fn c).run (EV P hint known) cx s = some o) : (EV P hint known).code cx c s = some o := by
  obtain ⟨n, hn⟩ := code_tends (EV_tends P hint known) h
  exact (EV_code P hint known).2 ⟨n + 1, hn n (Nat.le_refl _)⟩

theorem EV_call_eq {f : FuncId} {args : List V} {h : H} {o : List (R × H)} (ho : (funcX P known f).run (EV P hint known) args h = some o) : (EV P hint known).call f args h = some o := by
  obtain ⟨n, hn⟩ := func_tends (EV_tends P hint known) ho
  exact (EV_call P hint known).2 ⟨n + 1, hn n (Nat.le_refl _)⟩

end

/-- Whatever it says of a call is so. -/
theorem EV_sound {hint : Hint} {known : Known} (hK : KnOk P known) (hI : IdleOk P known) (hname : ∀ (f : FuncId) (fn : Func), P.funcs[f]? = some fn → (fn.name == "runtime.NumGoroutine") = false) {f : FuncId} {args : List V} {h : H} {outs : List (R × H)} (ho : (EV P hint known).call f args h = some outs) : HasBody P f ∧ CallOk P f args h outs := by
  obtain ⟨n, hn⟩ := (EV_call P hint known).1 ho
  exact ae_call hK hI hname hn

end Go.Ae

/- Temporaries and blocks as functions; the evaluator's equations. -/
namespace Go.Ae
variable {α : Type}

/-- A function that is another at one place. -/
def at1 (f : Nat → α) (i : Nat) (v : α) : Nat → α := fun j => if j = i then v else f j

theorem at_same (f : Nat → α) (i : Nat) (v : α) : at1 f i v i = v := if_pos rfl
theorem at_ne {i j : Nat} (f : Nat → α) (v : α) (h : j ≠ i) : at1 f i v j = f j := if_neg h

/-- The tree of a function. -/
def mkT : Nat → Nat → (Nat → α) → T α
  | 0, _, _ => .lf
  | f + 1, n, g => match n with
    | 0 => .lf
    | m + 1 => .nd (g 0) (mkT f ((m + 1) / 2) (fun k => g (2 * k + 1))) (mkT f (m / 2) (fun k => g (2 * k + 2)))

theorem fill_mkT (d : α) : ∀ f n, T.fill d f n = mkT f n (fun _ => d)
  | 0, _ => rfl
  | f + 1, 0 => rfl
  | f + 1, m + 1 => by
    show T.nd d (T.fill d f ((m + 1) / 2)) (T.fill d f (m / 2)) = _
    rw [fill_mkT d f, fill_mkT d f]; rfl

theorem get_nd (d x : α) (l r : T α) (k : Nat) : (T.nd x l r).get d (k + 1) = cond (Nat.beq (k % 2) 0) (l.get d (k / 2)) (r.get d (k / 2)) := rfl
theorem set_nd (x v : α) (l r : T α) (k : Nat) : (T.nd x l r).set (k + 1) v = cond (Nat.beq (k % 2) 0) (T.nd x (l.set (k / 2) v) r) (T.nd x l (r.set (k / 2) v)) := rfl
theorem push_nd (x v : α) (l r : T α) (k : Nat) : (T.nd x l r).push (k + 1) v = cond (Nat.beq (k % 2) 0) (T.nd x (l.push (k / 2) v) r) (T.nd x l (r.push (k / 2) v)) := rfl

theorem get_mkT (d : α) : ∀ (f n : Nat) (g : Nat → α) (i : Nat), i < n → n < 2 ^ f → (mkT f n g).get d i = g i
  | 0, n, g, i, h1, h2 => by omega
  | f + 1, 0, g, i, h1, h2 => by omega
  | f + 1, m + 1, g, 0, h1, h2 => rfl
  | f + 1, m + 1, g, k + 1, h1, h2 => by
    have hp : 2 ^ (f + 1) = 2 * 2 ^ f := by rw [Nat.pow_succ]; omega
    show (T.nd (g 0) _ _).get d (k + 1) = _
    rw [get_nd]
    rcases Nat.mod_two_eq_zero_or_one k with hk | hk
    · rw [hk]
      show (mkT f ((m + 1) / 2) _).get d (k / 2) = _
      rw [get_mkT d f _ _ _ (by omega) (by omega)]
      exact congrArg g (by omega)
    · rw [hk]
      show (mkT f (m / 2) _).get d (k / 2) = _
      rw [get_mkT d f _ _ _ (by omega) (by omega)]
      exact congrArg g (by omega)

theorem get_mkT_out (d : α) : ∀ (f n : Nat) (g : Nat → α) (i : Nat), n ≤ i → (mkT f n g).get d i = d
  | 0, n, g, i, h1 => rfl
  | f + 1, 0, g, i, h1 => rfl
  | f + 1, m + 1, g, 0, h1 => by omega
  | f + 1, m + 1, g, k + 1, h1 => by
    show (T.nd (g 0) _ _).get d (k + 1) = _
    rw [get_nd]
    rcases Nat.mod_two_eq_zero_or_one k with hk | hk
    · rw [hk]
      exact get_mkT_out d f _ _ _ (by omega)
    · rw [hk]
      exact get_mkT_out d f _ _ _ (by omega)

theorem set_mkT : ∀ (f n : Nat) (g : Nat → α) (i : Nat) (v : α), (mkT f n g).set i v = mkT f n (at1 g i v)
  | 0, n, g, i, v => rfl
  | f + 1, 0, g, i, v => rfl
  | f + 1, m + 1, g, 0, v => by
    show T.nd v _ _ = T.nd (at1 g 0 v 0) (mkT f ((m + 1) / 2) fun k => at1 g 0 v (2 * k + 1)) (mkT f (m / 2) fun k => at1 g 0 v (2 * k + 2))
    have h1 : (fun k => at1 g 0 v (2 * k + 1)) = fun k => g (2 * k + 1) := funext fun k => at_ne g v (by omega)
    have h2 : (fun k => at1 g 0 v (2 * k + 2)) = fun k => g (2 * k + 2) := funext fun k => at_ne g v (by omega)
    rw [h1, h2]; rfl
  | f + 1, m + 1, g, k + 1, v => by
    show (T.nd (g 0) _ _).set (k + 1) v = T.nd (at1 g (k + 1) v 0) (mkT f ((m + 1) / 2) fun j => at1 g (k + 1) v (2 * j + 1)) (mkT f (m / 2) fun j => at1 g (k + 1) v (2 * j + 2))
    rw [set_nd, at_ne g v (by omega)]
    rcases Nat.mod_two_eq_zero_or_one k with hk | hk
    · rw [hk]
      show T.nd _ ((mkT f _ _).set (k / 2) v) _ = _
      rw [set_mkT]
      have h1 : (fun j => at1 g (k + 1) v (2 * j + 1)) = at1 (fun j => g (2 * j + 1)) (k / 2) v := by
        funext j
        by_cases hj : j = k / 2
        · subst hj
          rw [at_same, show 2 * (k / 2) + 1 = k + 1 by omega, at_same]
        · rw [at_ne _ _ hj, at_ne _ _ (by omega)]
      have h2 : (fun j => at1 g (k + 1) v (2 * j + 2)) = fun j => g (2 * j + 2) := funext fun j => at_ne g v (by omega)
      rw [h1, h2]
    · rw [hk]
      show T.nd _ _ ((mkT f _ _).set (k / 2) v) = _
      rw [set_mkT]
      have h1 : (fun j => at1 g (k + 1) v (2 * j + 2)) = at1 (fun j => g (2 * j + 2)) (k / 2) v := by
        funext j
        by_cases hj : j = k / 2
        · subst hj
          rw [at_same, show 2 * (k / 2) + 2 = k + 1 by omega, at_same]
        · rw [at_ne _ _ hj, at_ne _ _ (by omega)]
      have h2 : (fun j => at1 g (k + 1) v (2 * j + 1)) = fun j => g (2 * j + 1) := funext fun j => at_ne g v (by omega)
      rw [h1, h2]

theorem mkT_fuel : ∀ (f n : Nat) (g : Nat → α), n < 2 ^ f → mkT (f + 1) n g = mkT f n g
  | 0, n, g, h => by obtain rfl : n = 0 := by omega
                     rfl
  | f + 1, 0, g, h => rfl
  | f + 1, m + 1, g, h => by
    have hp : 2 ^ (f + 1) = 2 * 2 ^ f := by rw [Nat.pow_succ]; omega
    show T.nd (g 0) (mkT (f + 1) ((m + 1) / 2) _) (mkT (f + 1) (m / 2) _) = _
    rw [mkT_fuel f _ _ (by omega), mkT_fuel f _ _ (by omega)]; rfl

theorem push_mkT : ∀ (f n : Nat) (g : Nat → α) (v : α), n < 2 ^ f → (mkT f n g).push n v = mkT (f + 1) (n + 1) (at1 g n v)
  | 0, n, g, v, h => by obtain rfl : n = 0 := by omega
                        show T.nd v _ _ = T.nd (at1 g 0 v 0) _ _
                        rw [at_same]; rfl
  | f + 1, 0, g, v, h => by
    show T.nd v _ _ = T.nd (at1 g 0 v 0) _ _
    rw [at_same]
    rfl
  | f + 1, m + 1, g, v, h => by
    have hp : 2 ^ (f + 1) = 2 * 2 ^ f := by rw [Nat.pow_succ]; omega
    show (T.nd (g 0) _ _).push (m + 1) v = T.nd (at1 g (m + 1) v 0) (mkT (f + 1) ((m + 1 + 1) / 2) fun j => at1 g (m + 1) v (2 * j + 1)) (mkT (f + 1) ((m + 1) / 2) fun j => at1 g (m + 1) v (2 * j + 2))
    rw [push_nd, at_ne g v (by omega)]
    rcases Nat.mod_two_eq_zero_or_one m with hk | hk
    · rw [hk]
      show T.nd _ ((mkT f _ _).push (m / 2) v) _ = _
      have e1 : (m + 1) / 2 = m / 2 := by omega
      have e2 : (m + 1 + 1) / 2 = m / 2 + 1 := by omega
      rw [e1, push_mkT f _ _ _ (by omega), e2]
      have h1 : (fun j => at1 g (m + 1) v (2 * j + 1)) = at1 (fun j => g (2 * j + 1)) (m / 2) v := by
        funext j
        by_cases hj : j = m / 2
        · subst hj
          rw [at_same, show 2 * (m / 2) + 1 = m + 1 by omega, at_same]
        · rw [at_ne _ _ hj, at_ne _ _ (by omega)]
      have h2 : (fun j => at1 g (m + 1) v (2 * j + 2)) = fun j => g (2 * j + 2) := funext fun j => at_ne g v (by omega)
      rw [h1, h2, mkT_fuel f (m / 2) (fun j => g (2 * j + 2)) (by omega)]
    · rw [hk]
      show T.nd _ _ ((mkT f _ _).push (m / 2) v) = _
      have e1 : (m + 1) / 2 = m / 2 + 1 := by omega
      have e2 : (m + 1 + 1) / 2 = (m + 1) / 2 := by omega
      rw [push_mkT f _ _ _ (by omega), e2]
      have h1 : (fun j => at1 g (m + 1) v (2 * j + 2)) = at1 (fun j => g (2 * j + 2)) (m / 2) v := by
        funext j
        by_cases hj : j = m / 2
        · subst hj
          rw [at_same, show 2 * (m / 2) + 2 = m + 1 by omega, at_same]
        · rw [at_ne _ _ hj, at_ne _ _ (by omega)]
      have h2 : (fun j => at1 g (m + 1) v (2 * j + 1)) = fun j => g (2 * j + 1) := funext fun j => at_ne g v (by omega)
      rw [h1, h2, mkT_fuel f ((m + 1) / 2) _ (by omega), e1]

/-! ### Temporaries, states, heaps -/

/-- A frame's state: n temporaries. -/
def S (n : Nat) (f : Nat → V) (dfs : List D) (h : H) : St := ⟨mkT 20 n f, dfs, h⟩

theorem rd_S {n : Nat} {f : Nat → V} {t : Nat} (h1 : t < n) (h2 : n < 1048576) : (mkT 20 n f).get undefV t = f t := get_mkT _ _ _ _ _ h1 h2

/-- A heap of n blocks. -/
def mkH (n : Nat) (g : Nat → Blk) (d : List Nat) : H := ⟨mkT n n g, n, d⟩

theorem empty_mkH : H.empty = mkH 0 (fun _ => .gone) [] := rfl
theorem n_mkH (n : Nat) (g : Nat → Blk) (d : List Nat) : (mkH n g d).n = n := rfl
theorem get_mkH {n : Nat} {g : Nat → Blk} {d : List Nat} {r : Nat} (h : r < n) : (mkH n g d).get r = g r := get_mkT _ _ _ _ _ h Nat.lt_two_pow_self
theorem set_mkH (n : Nat) (g : Nat → Blk) (d : List Nat) (r : Nat) (b : Blk) : (mkH n g d).set r b = mkH n (at1 g r b) (r :: d) := by
  unfold mkH H.set
  rw [set_mkT]
theorem new_mkH (n : Nat) (g : Nat → Blk) (d : List Nat) (b : Blk) : (mkH n g d).new b = mkH (n + 1) (at1 g n b) d := by
  unfold mkH H.new
  rw [push_mkT _ _ _ _ Nat.lt_two_pow_self]

/-! ### The evaluator's equations -/
section
variable (P : Program) (hint : Hint) (known : Known)

theorem ev_EV (n : Nat) : Tends (ev P hint known n) (fun p => p (EV P hint known)) :=
  ⟨fil_one _, fun h => (EV_call P hint known).2 ⟨n, h⟩, fun h => (EV_code P hint known).2 ⟨n, h⟩⟩

theorem EV_code' (cx : Cx) (c : Code) (s : St) : (EV P hint known).code cx c s = (codeX P hint known cx.fn c).run (EV P hint known) cx s := by
  cases h : (codeX P hint known cx.fn c).run (EV P hint known) cx s with
  | some o => exact EV_code_eq P hint known h
  | none =>
    cases h1 : (EV P hint known).code cx c s with
    | none => rfl
    | some o =>
      obtain ⟨n, hn⟩ := (EV_code P hint known).1 h1
      cases n with
      | zero => cases hn
      | succ m =>
        have h2 := code_tends (ev_EV P hint known m) (cx := cx) (c := c) (s := s) (o := o) hn
        exact absurd (h2.symm.trans h) (by simp)

theorem EV_call' (f : FuncId) (args : List V) (h : H) : (EV P hint known).call f args h = (funcX P known f).run (EV P hint known) args h := by
  cases h0 : (funcX P known f).run (EV P hint known) args h with
  | some o => exact EV_call_eq P hint known h0
  | none =>
    cases h1 : (EV P hint known).call f args h with
    | none => rfl
    | some o =>
      obtain ⟨n, hn⟩ := (EV_call P hint known).1 h1
      cases n with
      | zero => cases hn
      | succ m =>
        have h2 := func_tends (ev_EV P hint known m) (f := f) (args := args) (h := h) (o := o) hn
        exact absurd (h2.symm.trans h0) (by simp)

end
end Go.Ae

/- Symbolic steps: the evaluator's equations, operation by operation. -/
namespace Go.Ae

def codeA : Code → Code
  | .seq a _ => a
  | .cond _ a _ => a
  | .block _ b => b
  | .loop b => b
  | .scope b => b
  | .rangeFunc _ _ a _ => a
  | c => c
def codeB : Code → Code
  | .seq _ b => b
  | .cond _ _ b => b
  | .rangeFunc _ _ _ b => b
  | c => c

def regOps : Code → Array Oper
  | .region _ ops _ => ops
  | _ => #[]

/-- On, where it went on. -/
def thenV (x : Option (List (Ex × St))) (k : St → Option (List (Ex × St))) : Option (List (Ex × St)) :=
  match x with
  | some rs => bindO (fun r => match r.1 with
    | .normal => k r.2
    | _ => some [r]) rs
  | none => none

theorem thenV_match (x : Option (List (Ex × St))) (k : St → Option (List (Ex × St))) : (match x with
    | some [(.normal, s)] => k s
    | some rs => bindO (fun r => match r.1 with
      | .normal => k r.2
      | _ => some [r]) rs
    | none => none) = thenV x k := by
  rcases x with _ | l
  · rfl
  · rcases l with _ | ⟨⟨x, s⟩, _ | ⟨b, l⟩⟩
    · rfl
    · cases x <;> rfl
    · cases x <;> rfl

theorem thenV_normal (s : St) (k : St → Option (List (Ex × St))) : thenV (some [(.normal, s)]) k = k s := rfl
theorem thenV_ret (s : St) (k : St → Option (List (Ex × St))) : thenV (some [(.ret, s)]) k = some [(.ret, s)] := rfl
theorem thenV_exit (s : St) (id : Nat) (k : St → Option (List (Ex × St))) : thenV (some [(.exit id, s)]) k = some [(.exit id, s)] := rfl
theorem thenV_pan (s : St) (v : V) (k : St → Option (List (Ex × St))) : thenV (some [(.pan v, s)]) k = some [(.pan v, s)] := rfl
theorem thenV_none (k : St → Option (List (Ex × St))) : thenV none k = none := rfl

theorem seqE_thenV (E : Ev) (cx : Cx) (b : Code) (x : Option (List (Ex × St))) : seqE E cx b x = thenV x (E.code cx b) := by
  rcases x with _ | l
  · rfl
  · rcases l with _ | ⟨⟨x, s⟩, _ | ⟨b, l⟩⟩
    · rfl
    · cases x <;> rfl
    · cases x <;> rfl

/-- An operation's effect, and on. -/
def stepV (s : St) (d : Option Tmp) (x : Option Eff) (k : St → Option (List (Ex × St))) : Option (List (Ex × St)) :=
  match x with
  | some e => k { s with regs := put s.regs d e.v, h := e.apply s.h }
  | none => none

def wantB (v : V) (w : Bool) : Bool := match v with
  | .bool b => b == w
  | _ => false

/-- A guarded operation. -/
def guardV (b : Bool) (s : St) (d : Option Tmp) (k1 : St → Option (List (Ex × St))) (k : St → Option (List (Ex × St))) : Option (List (Ex × St)) :=
  cond b (k1 s) (k { s with regs := put s.regs d undefV })

def condV (v : V) (a b : St → Option (List (Ex × St))) (s : St) : Option (List (Ex × St)) :=
  match v with
  | .bool c => cond c (a s) (b s)
  | _ => none

def blockV (id : Nat) (x : Option (List (Ex × St))) : Option (List (Ex × St)) :=
  match x with
  | some outs => some (outs.map fun r => match r.1 with
      | .exit i => (if i = id then .normal else .exit i, r.2)
      | _ => r)
  | none => none

theorem blockV_normal (id : Nat) (s : St) : blockV id (some [(.normal, s)]) = some [(.normal, s)] := rfl
theorem blockV_ret (id : Nat) (s : St) : blockV id (some [(.ret, s)]) = some [(.ret, s)] := rfl
theorem blockV_pan (id : Nat) (v : V) (s : St) : blockV id (some [(.pan v, s)]) = some [(.pan v, s)] := rfl
theorem blockV_exit (id : Nat) (s : St) : blockV id (some [(.exit id, s)]) = some [(.normal, s)] := by
  show some [((if id = id then Ex.normal else .exit id), s)] = _
  rw [if_pos rfl]
theorem blockV_exit_ne {id i : Nat} (h : i ≠ id) (s : St) : blockV id (some [(.exit i, s)]) = some [(.exit i, s)] := by
  show some [((if i = id then Ex.normal else .exit i), s)] = _
  rw [if_neg h]

/-- What is done at one operation: where its value goes; its guard; its effect. -/
structure Stp where
  d : Option Tmp
  g : Option (Tmp × Bool)
  x : T V → (Nat → Blk) → Nat → Option Eff
structure StpC where
  d : Option Tmp
  g : Option (Tmp × Bool)
  x : T V → Option Callee1

/-- The guard's temporary. -/
def guardT (ops : Array Oper) (o : Oper) (k : Option (Tmp × Bool) → Option Stp) : Option Stp :=
  match o.guard with
  | none => k none
  | some (j, want) => match (ops[j]?).bind (·.dst) with
    | none => none
    | some d => k (some (d, want))
def guardC (ops : Array Oper) (o : Oper) (k : Option (Tmp × Bool) → Option StpC) : Option StpC :=
  match o.guard with
  | none => k none
  | some (j, want) => match (ops[j]?).bind (·.dst) with
    | none => none
    | some d => k (some (d, want))

section
variable (P : Program) (hint : Hint) (known : Known)

def stpAt (fn : FuncId) (c : Code) (j : Nat) : Option Stp :=
  match (regOps c).toList.drop j with
  | [] => none
  | o :: _ => match o.op with
    | .call cl => match cl.callee with
      | .builtin _ => guardT (regOps c) o fun g => some ⟨o.dst, g, (exec P (hint.rows fn o.dst) o.op).run⟩
      | _ => none
    | .next _ false | .panic _ | .defer _ => none
    | _ => guardT (regOps c) o fun g => some ⟨o.dst, g, (exec P (hint.rows fn o.dst) o.op).run⟩

def stpC (c : Code) (j : Nat) : Option StpC :=
  match (regOps c).toList.drop j with
  | [] => none
  | o :: _ => match o.op with
    | .call cl => match cl.callee with
      | .builtin _ => none
      | _ => guardC (regOps c) o fun g => some ⟨o.dst, g, (calleeX P cl).run⟩
    | _ => none

def Qc (cx : Cx) (c : Code) (s : St) : Option (List (Ex × St)) := (EV P hint known).code cx c s

def Qo (c : Code) (j : Nat) (cx : Cx) (s : St) : Option (List (Ex × St)) :=
  (opsV P hint known cx.fn (regOps c) ((regOps c).toList.drop j)).run (EV P hint known) cx s

/-- A call, whatever its arguments. -/
def callS (f : FuncId) (args : List V) (h : H) : Option (List (R × H)) :=
  if V.pures (V.seals args) then
    match callP hint known (EV P hint known) f (V.seals args) h.n with
    | some es => some (es.map fun e => (cond e.pan (R.pan e.v) (R.ret e.v), e.apply h))
    | none => none
  else (EV P hint known).call f args h

def callX (c : Option Callee1) (h : H) : Option (List (R × H)) :=
  match c with
  | some (.func f args) => callS P hint known f args h
  | some (.round l args) => match roundE (EV P hint known) h l args with
    | some outs => some (outs.map fun r => (.ret r.1, r.2))
    | none => none
  | none => none

def thenC (d : Option Tmp) (s : St) (x : Option (List (R × H))) (k : St → Option (List (Ex × St))) : Option (List (Ex × St)) :=
  match x with
  | some rs => bindO (fun r => match r.1 with
    | .ret v => k { s with regs := put s.regs d v, h := r.2 }
    | .pan v => some [(.pan v, { s with h := r.2 })]) rs
  | none => none

variable {P hint known}

theorem Qo_cons {c : Code} {j : Nat} {o : Oper} {l : List Oper} {cx : Cx} (h : (regOps c).toList.drop j = o :: l) (s : St) :
    Qo P hint known c j cx s = if (wantX (regOps c) o).run s.regs then thenV ((op1 P hint known cx.fn o).run (EV P hint known) cx s) (Qo P hint known c (j + 1) cx)
      else Qo P hint known c (j + 1) cx { s with regs := put s.regs o.dst undefV } := by
  have hl : l = (regOps c).toList.drop (j + 1) := by
    have := congrArg List.tail h
    rw [List.tail_drop] at this
    exact this.symm
  subst hl
  unfold Qo
  rw [h]
  show (if (wantX (regOps c) o).run s.regs then
      match (op1 P hint known cx.fn o).run (EV P hint known) cx s with
      | some [(.normal, s)] => (opsV P hint known cx.fn (regOps c) ((regOps c).toList.drop (j + 1))).run (EV P hint known) cx s
      | some rs => bindO (fun r : Ex × St => match r.1 with
        | .normal => (opsV P hint known cx.fn (regOps c) ((regOps c).toList.drop (j + 1))).run (EV P hint known) cx r.2
        | _ => some [r]) rs
      | none => none
    else _) = _
  rw [thenV_match]

theorem wantX_none {ops : Array Oper} {o : Oper} (h : o.guard = none) (regs : T V) : (wantX ops o).run regs = true := by
  unfold wantX; rw [h]
theorem wantX_some {ops : Array Oper} {o : Oper} {j : Nat} {w : Bool} {d : Tmp} (h : o.guard = some (j, w)) (hd : (ops[j]?).bind (·.dst) = some d) (regs : T V) : (wantX ops o).run regs = wantB (regs.get undefV d) w := by
  unfold wantX wantB; rw [h]; simp only; rw [hd]; rfl

theorem thenV_exec (s : St) (o : Oper) (x : Option Eff) (k : St → Option (List (Ex × St))) :
    thenV (match x with | some e => some [(Ex.normal, s.eff o e)] | none => none) k = stepV s o.dst x k := by
  cases x <;> rfl

theorem guard_cases {c : Code} {o : Oper} {st : Stp} {x : T V → (Nat → Blk) → Nat → Option Eff} (h : guardT (regOps c) o (fun g => some ⟨o.dst, g, x⟩) = some st) :
    st = ⟨o.dst, st.g, x⟩ ∧ ∀ regs, (wantX (regOps c) o).run regs = match st.g with | none => true | some (d, w) => wantB (regs.get undefV d) w := by
  unfold guardT at h
  cases hg : o.guard with
  | none =>
    rw [hg] at h
    obtain rfl := Option.some.inj h
    exact ⟨rfl, fun regs => wantX_none hg regs⟩
  | some p =>
    obtain ⟨j, w⟩ := p
    rw [hg] at h
    simp only at h
    cases hd : ((regOps c)[j]?).bind (·.dst) with
    | none => rw [hd] at h; cases h
    | some d =>
      rw [hd] at h
      obtain rfl := Option.some.inj h
      exact ⟨rfl, fun regs => wantX_some hg hd regs⟩

theorem guardC_cases {c : Code} {o : Oper} {st : StpC} {x : T V → Option Callee1} (h : guardC (regOps c) o (fun g => some ⟨o.dst, g, x⟩) = some st) :
    st = ⟨o.dst, st.g, x⟩ ∧ ∀ regs, (wantX (regOps c) o).run regs = match st.g with | none => true | some (d, w) => wantB (regs.get undefV d) w := by
  unfold guardC at h
  cases hg : o.guard with
  | none =>
    rw [hg] at h
    obtain rfl := Option.some.inj h
    exact ⟨rfl, fun regs => wantX_none hg regs⟩
  | some p =>
    obtain ⟨j, w⟩ := p
    rw [hg] at h
    simp only at h
    cases hd : ((regOps c)[j]?).bind (·.dst) with
    | none => rw [hd] at h; cases h
    | some d =>
      rw [hd] at h
      obtain rfl := Option.some.inj h
      exact ⟨rfl, fun regs => wantX_some hg hd regs⟩

/-- Is it an operation that is no call? -/
def opIsX : Op → Bool
  | .call c => match c.callee with
    | .builtin _ => true
    | _ => false
  | .next _ false | .panic _ | .defer _ => false
  | _ => true

theorem op1_exec {fn : FuncId} {o : Oper} (h : opIsX o.op = true) (cx : Cx) (s : St) (E : Ev) :
    (op1 P hint known fn o).run E cx s = match (exec P (hint.rows fn o.dst) o.op).run s.regs s.h.get s.h.n with
      | some e => some [(.normal, s.eff o e)]
      | none => none := by
  unfold op1
  split
  · rename_i c hc
    split
    · rfl
    · rename_i hb
      rw [hc] at h
      unfold opIsX at h
      simp only at h
      first | (split at h
               · rename_i b hb'; exact absurd hb' (hb b)
               · cases h) | cases h
  · rename_i x hx; rw [hx] at h; cases h
  · rename_i x hx; rw [hx] at h; cases h
  · rename_i c hc; rw [hc] at h; cases h
  · rfl

theorem stpAt_inv {fn : FuncId} {c : Code} {j : Nat} {st : Stp} (h : stpAt P hint fn c j = some st) :
    ∃ o l, (regOps c).toList.drop j = o :: l ∧ opIsX o.op = true ∧ guardT (regOps c) o (fun g => some ⟨o.dst, g, (exec P (hint.rows fn o.dst) o.op).run⟩) = some st := by
  unfold stpAt at h
  split at h
  · cases h
  · rename_i o l hl
    refine ⟨o, l, hl, ?_⟩
    split at h
    · rename_i cl hcl
      split at h
      · rename_i b hb
        refine ⟨?_, h⟩
        rw [hcl]; unfold opIsX; simp only; rw [hb]
      · cases h
    · cases h
    · cases h
    · cases h
    · rename_i h1 h2 h3 h4
      refine ⟨?_, h⟩
      unfold opIsX
      split
      · rename_i c hc; exact absurd hc (h1 c)
      · rename_i x hx; exact absurd hx (h2 x)
      · rename_i x hx; exact absurd hx (h3 x)
      · rename_i x hx; exact absurd hx (h4 x)
      · rfl

/-- One operation. -/
theorem Qo_step {fn : FuncId} {r : Option Nat} {c : Code} {j : Nat} {d : Option Tmp} {x : T V → (Nat → Blk) → Nat → Option Eff} (h : stpAt P hint fn c j = some ⟨d, none, x⟩) (s : St) :
    Qo P hint known c j ⟨fn, r⟩ s = stepV s d (x s.regs s.h.get s.h.n) (Qo P hint known c (j + 1) ⟨fn, r⟩) := by
  obtain ⟨o, l, h1, h2, h3⟩ := stpAt_inv h
  obtain ⟨h4, h5⟩ := guard_cases h3
  cases h4
  rw [Qo_cons h1, h5, if_pos rfl, op1_exec h2, thenV_exec]

/-- One guarded operation. -/
theorem Qo_stepG {fn : FuncId} {r : Option Nat} {c : Code} {j : Nat} {d : Option Tmp} {g : Tmp} {w : Bool} {x : T V → (Nat → Blk) → Nat → Option Eff} (h : stpAt P hint fn c j = some ⟨d, some (g, w), x⟩) (s : St) :
    Qo P hint known c j ⟨fn, r⟩ s = cond (wantB (s.regs.get undefV g) w) (stepV s d (x s.regs s.h.get s.h.n) (Qo P hint known c (j + 1) ⟨fn, r⟩)) (Qo P hint known c (j + 1) ⟨fn, r⟩ { s with regs := put s.regs d undefV }) := by
  obtain ⟨o, l, h1, h2, h3⟩ := stpAt_inv h
  obtain ⟨h4, h5⟩ := guard_cases h3
  cases h4
  rw [Qo_cons h1, h5, op1_exec h2, thenV_exec]
  show (if wantB (s.regs.get undefV g) w = true then _ else _) = _
  cases hb : wantB (s.regs.get undefV g) w
  · rw [if_neg (by simp)]; rfl
  · rw [if_pos rfl]; rfl

theorem thenV_callO {o : Oper} {s : St} {c : Option Callee1} {k : St → Option (List (Ex × St))} :
    thenV (callO hint known (EV P hint known) o s c) k = thenC o.dst s (callX P hint known c s.h) k := by
  have key : ∀ (l : List Eff), thenV (some (l.map (s.effR o))) k = thenC o.dst s (some (l.map fun e => (cond e.pan (R.pan e.v) (R.ret e.v), e.apply s.h))) k := by
    intro l
    show bindO (fun r : Ex × St => match r.1 with | .normal => k r.2 | _ => some [r]) (l.map (s.effR o)) = bindO (fun r : R × H => match r.1 with
        | .ret v => k { s with regs := put s.regs o.dst v, h := r.2 }
        | .pan v => some [(.pan v, { s with h := r.2 })]) (l.map fun e => (cond e.pan (R.pan e.v) (R.ret e.v), e.apply s.h))
    have h1 : ∀ e : Eff, (fun r : Ex × St => match r.1 with | .normal => k r.2 | _ => some [r]) (s.effR o e) = (fun r : R × H => match r.1 with
        | .ret v => k { s with regs := put s.regs o.dst v, h := r.2 }
        | .pan v => some [(.pan v, { s with h := r.2 })]) (cond e.pan (R.pan e.v) (R.ret e.v), e.apply s.h) := by
      intro e
      unfold St.effR
      cases e.pan <;> rfl
    induction l with
    | nil => rfl
    | cons e l ih =>
      cases l with
      | nil => exact h1 e
      | cons e' l =>
        simp only [List.map_cons] at ih ⊢
        unfold bindO
        rw [ih]
        have := h1 e
        simp only at this
        rw [this]
  have key2 : ∀ (l : List (R × H)), thenV (some (l.map (s.resR o))) k = thenC o.dst s (some l) k := by
    intro l
    show bindO (fun r : Ex × St => match r.1 with | .normal => k r.2 | _ => some [r]) (l.map (s.resR o)) = bindO (fun r : R × H => match r.1 with
        | .ret v => k { s with regs := put s.regs o.dst v, h := r.2 }
        | .pan v => some [(.pan v, { s with h := r.2 })]) l
    have h1 : ∀ e : R × H, (fun r : Ex × St => match r.1 with | .normal => k r.2 | _ => some [r]) (s.resR o e) = (fun r : R × H => match r.1 with
        | .ret v => k { s with regs := put s.regs o.dst v, h := r.2 }
        | .pan v => some [(.pan v, { s with h := r.2 })]) e := by
      rintro ⟨v | v, h⟩ <;> rfl
    induction l with
    | nil => rfl
    | cons e l ih =>
      cases l with
      | nil => exact h1 e
      | cons e' l =>
        simp only [List.map_cons] at ih ⊢
        unfold bindO
        rw [ih]
        have := h1 e
        simp only at this
        rw [this]
  unfold callO
  split
  · rename_i f args
    show _ = thenC o.dst s (callS P hint known f args s.h) k
    unfold callS
    split
    · rename_i hp
      cases hc : callP hint known (EV P hint known) f (V.seals args) s.h.n with
      | none => rfl
      | some es =>
        have := key es
        cases es with
        | nil => exact this
        | cons e es =>
          cases es with
          | nil => exact this
          | cons e' es => exact this
    · cases hc : (EV P hint known).call f args s.h with
      | none => rfl
      | some outs => exact key2 outs
  · rename_i l args
    show _ = thenC o.dst s (match roundE (EV P hint known) s.h l args with
      | some outs => some (outs.map fun r => (R.ret r.1, r.2))
      | none => none) k
    cases hc : roundE (EV P hint known) s.h l args with
    | none => rfl
    | some outs =>
      have := key2 (outs.map fun r => (.ret r.1, r.2))
      simp only [List.map_map] at this
      exact this
  · rfl

theorem stpC_inv {c : Code} {j : Nat} {st : StpC} (h : stpC P c j = some st) :
    ∃ o l cl, (regOps c).toList.drop j = o :: l ∧ o.op = .call cl ∧ (∀ b, cl.callee ≠ .builtin b) ∧ guardC (regOps c) o (fun g => some ⟨o.dst, g, (calleeX P cl).run⟩) = some st := by
  unfold stpC at h
  split at h
  · cases h
  · rename_i o l hl
    split at h
    · rename_i cl hcl
      split at h
      · cases h
      · rename_i hb
        exact ⟨o, l, cl, hl, hcl, hb, h⟩
    · cases h

theorem op1_call {fn : FuncId} {o : Oper} {cl : Call} (h : o.op = .call cl) (hb : ∀ b, cl.callee ≠ .builtin b) (cx : Cx) (s : St) (E : Ev) :
    (op1 P hint known fn o).run E cx s = callO hint known E o s ((calleeX P cl).run s.regs) := by
  unfold op1
  rw [h]
  simp only

theorem Qo_call {fn : FuncId} {r : Option Nat} {c : Code} {j : Nat} {d : Option Tmp} {x : T V → Option Callee1} (h : stpC P c j = some ⟨d, none, x⟩) (s : St) :
    Qo P hint known c j ⟨fn, r⟩ s = thenC d s (callX P hint known (x s.regs) s.h) (Qo P hint known c (j + 1) ⟨fn, r⟩) := by
  obtain ⟨o, l, cl, h1, h2, h2b, h3⟩ := stpC_inv h
  obtain ⟨h4, h5⟩ := guardC_cases h3
  cases h4
  rw [Qo_cons h1, h5, if_pos rfl, op1_call h2 h2b, thenV_callO]

theorem Qo_callG {fn : FuncId} {r : Option Nat} {c : Code} {j : Nat} {d : Option Tmp} {g : Tmp} {w : Bool} {x : T V → Option Callee1} (h : stpC P c j = some ⟨d, some (g, w), x⟩) (s : St) :
    Qo P hint known c j ⟨fn, r⟩ s = cond (wantB (s.regs.get undefV g) w) (thenC d s (callX P hint known (x s.regs) s.h) (Qo P hint known c (j + 1) ⟨fn, r⟩)) (Qo P hint known c (j + 1) ⟨fn, r⟩ { s with regs := put s.regs d undefV }) := by
  obtain ⟨o, l, cl, h1, h2, h2b, h3⟩ := stpC_inv h
  obtain ⟨h4, h5⟩ := guardC_cases h3
  cases h4
  rw [Qo_cons h1, h5, op1_call h2 h2b, thenV_callO]
  show (if wantB (s.regs.get undefV g) w = true then _ else _) = _
  cases hb : wantB (s.regs.get undefV g) w
  · rw [if_neg (by simp)]; rfl
  · rw [if_pos rfl]; rfl

theorem Qo_end {c : Code} {j : Nat} {cx : Cx} (h : (regOps c).toList.drop j = []) (s : St) : Qo P hint known c j cx s = some [(.normal, s)] := by
  unfold Qo; rw [h]; rfl

/-! ### Code -/

theorem Qc_seq {c a b : Code} (h : c = .seq a b) (cx : Cx) (s : St) : Qc P hint known cx c s = thenV (Qc P hint known cx a s) (Qc P hint known cx b) := by
  subst h
  rw [Qc, EV_code']
  show seqE _ cx b _ = _
  exact seqE_thenV _ _ _ _
theorem Qc_cond {c a b : Code} {t : Tmp} (h : c = .cond (.tmp t) a b) (cx : Cx) (s : St) : Qc P hint known cx c s = condV (s.regs.get undefV t) (Qc P hint known cx a) (Qc P hint known cx b) s := by
  subst h
  rw [Qc, EV_code']
  show (match rd s.regs (.tmp t) with
    | some (.bool true) => (EV P hint known).code cx a s
    | some (.bool false) => (EV P hint known).code cx b s
    | _ => none) = _
  unfold rd condV
  simp only
  cases s.regs.get undefV t with
  | bool b => cases b <;> rfl
  | _ => rfl
theorem Qc_block {c b : Code} {id : Nat} (h : c = .block id b) (cx : Cx) (s : St) : Qc P hint known cx c s = blockV id (Qc P hint known cx b s) := by
  subst h
  rw [Qc, EV_code']
  rfl
theorem Qc_loop {c b : Code} (h : c = .loop b) (cx : Cx) (s : St) : Qc P hint known cx c s = thenV (Qc P hint known cx b s) (Qc P hint known cx c) := by
  subst h
  rw [Qc, EV_code']
  show seqE _ cx (.loop b) _ = _
  exact seqE_thenV _ _ _ _
theorem Qc_scope {c b : Code} (h : c = .scope b) (cx : Cx) (s : St) : Qc P hint known cx c s = Qc P hint known cx b s := by
  subst h
  rw [Qc, EV_code']
  rfl
theorem Qc_exit {c : Code} {id : Nat} (h : c = .exit id) (cx : Cx) (s : St) : Qc P hint known cx c s = some [(.exit id, s)] := by
  subst h
  rw [Qc, EV_code']
  rfl
theorem Qc_ret {c : Code} (h : c = .ret) (cx : Cx) (s : St) : Qc P hint known cx c s = some [(.ret, s)] := by
  subst h
  rw [Qc, EV_code']
  rfl
theorem Qc_skip {c : Code} (h : c = .skip) (cx : Cx) (s : St) : Qc P hint known cx c s = some [(.normal, s)] := by
  subst h
  rw [Qc, EV_code']
  rfl

theorem allO_fix {cx : Cx} {id : Nat} (hf : hint.fix cx.fn id = []) : ∀ rs : List (Ex × St), allO (fun r => match r.1 with
    | .normal => fixS hint cx id r.2
    | _ => some r) rs = some rs
  | [] => rfl
  | (x, s) :: l => by
    unfold allO
    rw [allO_fix hf l]
    have : (match (x, s).1 with
      | .normal => fixS hint cx id (x, s).2
      | _ => some (x, s)) = some (x, s) := by
      cases x with
      | normal =>
        show fixS hint cx id s = _
        unfold fixS
        rw [hf]
      | _ => rfl
    simp only at this ⊢
    rw [this]

/-- A region in the text's order. -/
theorem Qc_region {c : Code} {id : Nat} {ops : Array Oper} (h : c = .region id ops false) {cx : Cx} (hf : hint.fix cx.fn id = []) (s : St) : Qc P hint known cx c s = Qo P hint known c 0 cx s := by
  subst h
  rw [Qc, EV_code']
  show (match (opsV P hint known cx.fn ops ops.toList).run (EV P hint known) cx s with
      | some rs => allO (fun r => match r.1 with
        | .normal => fixS hint cx id r.2
        | _ => some r) rs
      | none => none) = (opsV P hint known cx.fn ops ops.toList).run (EV P hint known) cx s
  cases (opsV P hint known cx.fn ops ops.toList).run (EV P hint known) cx s with
  | none => rfl
  | some rs => exact allO_fix hf rs

end
end Go.Ae

/- Symbolic steps: drawn regions, functions, what leaves a call. -/
namespace Go.Ae

/-- An operation that is not wanted. -/
def skipS (s : St) (d : Option Tmp) : St := { s with regs := put s.regs d undefV }
theorem skipS_S {n t : Nat} {f : Nat → V} {dfs : List D} {h : H} : skipS (S n f dfs h) (some t) = S n (at1 f t undefV) dfs h := by
  show St.mk ((mkT 20 n f).set t undefV) dfs h = _
  rw [set_mkT]; rfl

/-- An operation where the order is drawn. -/
def stepD (s : St) (d : Option Tmp) (i : Nat) (bef : List Nat) (dn : List (Nat × Foot)) (x : Option Eff) (k : List (Nat × Foot) → St → Option (List (Ex × St))) : Option (List (Ex × St)) :=
  match x with
  | some e => match e with
    | ⟨v, [], [], [], false⟩ => k dn { s with regs := put s.regs d v }
    | e => cond (dn.all fun p => (bef.getD i 0).testBit p.1 || (e.foot s.h.n).apart p.2) (k ((i, e.foot s.h.n) :: dn) { s with regs := put s.regs d e.v, h := e.apply s.h }) none
  | none => none

/-- An operation that touches no block, where the order is drawn. -/
theorem stepD_v (s : St) (d : Option Tmp) (i : Nat) (bef : List Nat) (dn : List (Nat × Foot)) (v : V) (k : List (Nat × Foot) → St → Option (List (Ex × St))) :
    stepD s d i bef dn (some { v := v }) k = k dn { s with regs := put s.regs d v } := rfl
theorem stepD_rd (s : St) (d : Option Tmp) (i : Nat) (bef : List Nat) (dn : List (Nat × Foot)) (v : V) (r : Nat) (rs : List Nat) (wr : List (Nat × Blk)) (nw : List Blk) (k : List (Nat × Foot) → St → Option (List (Ex × St))) :
    stepD s d i bef dn (some { v := v, rd := r :: rs, wr := wr, nw := nw }) k =
      cond (dn.all fun p => (bef.getD i 0).testBit p.1 || (Foot.mk (r :: rs) (wr.map (·.1) ++ upFrom s.h.n nw)).apart p.2) (k ((i, ⟨r :: rs, wr.map (·.1) ++ upFrom s.h.n nw⟩) :: dn) { s with regs := put s.regs d v, h := Eff.apply { v := v, rd := r :: rs, wr := wr, nw := nw } s.h }) none := rfl
theorem stepD_nw (s : St) (d : Option Tmp) (i : Nat) (bef : List Nat) (dn : List (Nat × Foot)) (v : V) (b : Blk) (bs : List Blk) (k : List (Nat × Foot) → St → Option (List (Ex × St))) :
    stepD s d i bef dn (some { v := v, nw := b :: bs }) k =
      cond (dn.all fun p => (bef.getD i 0).testBit p.1 || (Foot.mk [] (upFrom s.h.n (b :: bs))).apart p.2) (k ((i, ⟨[], upFrom s.h.n (b :: bs)⟩) :: dn) { s with regs := put s.regs d v, h := Eff.apply { v := v, nw := b :: bs } s.h }) none := rfl

/-- What is called by a value. -/
def callOf (v : V) (args : List V) : Option Callee1 :=
  match v with
  | .fn (.func g) first cap => some (.func g (first ++ args ++ cap))
  | .fn (.yield l) [] [] => some (.round l args)
  | _ => none

/-- May it be done behind what has been done? -/
def okD (bef : List Nat) (i : Nat) (dn : List (Nat × Foot)) (ft : Foot) : Bool := dn.all fun p => (bef.getD i 0).testBit p.1 || ft.apart p.2
theorem okD_nil (bef : List Nat) (i : Nat) (ft : Foot) : okD bef i [] ft = true := rfl
theorem okD_bef {bef : List Nat} {i j : Nat} {ft f : Foot} {dn : List (Nat × Foot)} (h : (bef.getD i 0).testBit j = true) : okD bef i ((j, f) :: dn) ft = okD bef i dn ft := by
  show (((bef.getD i 0).testBit j || ft.apart f) && okD bef i dn ft) = _
  rw [h]; rfl
theorem okD_rd {bef : List Nat} {i j : Nat} {a b : List Nat} {dn : List (Nat × Foot)} : okD bef i ((j, ⟨b, []⟩) :: dn) ⟨a, []⟩ = okD bef i dn ⟨a, []⟩ := by
  show (((bef.getD i 0).testBit j || Foot.apart ⟨a, []⟩ ⟨b, []⟩) && okD bef i dn ⟨a, []⟩) = _
  have : Foot.apart ⟨a, []⟩ ⟨b, []⟩ = true := by
    show (true && true && apart a []) = true
    unfold apart
    simp
  rw [this, Bool.or_true]; rfl
theorem okD_apart {bef : List Nat} {i j : Nat} {ft f : Foot} {dn : List (Nat × Foot)} (h : ft.apart f = true) : okD bef i ((j, f) :: dn) ft = okD bef i dn ft := by
  show (((bef.getD i 0).testBit j || ft.apart f) && okD bef i dn ft) = _
  rw [h, Bool.or_true]; rfl

section
variable {n : Nat} {f : Nat → V} {dfs : List D} {h : H} {i : Nat} {bef : List Nat} {dn : List (Nat × Foot)} {k : List (Nat × Foot) → St → Option (List (Ex × St))}
theorem stepD_vS {t : Tmp} {v : V} : stepD (S n f dfs h) (some t) i bef dn (some { v := v }) k = k dn (S n (at1 f t v) dfs h) := by
  show k dn ⟨(mkT 20 n f).set t v, dfs, h⟩ = _
  rw [set_mkT]; rfl
theorem stepD_rdS {t : Tmp} {v : V} {r : Nat} {rs : List Nat} : stepD (S n f dfs h) (some t) i bef dn (some { v := v, rd := r :: rs }) k = if okD bef i dn ⟨r :: rs, []⟩ = true then k ((i, ⟨r :: rs, []⟩) :: dn) (S n (at1 f t v) dfs h) else none := by
  rw [← Bool.cond_eq_ite]
  show cond (okD bef i dn ⟨r :: rs, []⟩) (k ((i, ⟨r :: rs, []⟩) :: dn) ⟨(mkT 20 n f).set t v, dfs, h⟩) none = _
  rw [set_mkT]; rfl
theorem stepD_wrS {v : V} {r r' : Nat} {b : Blk} : stepD (S n f dfs h) none i bef dn (some { v := v, rd := [r'], wr := [(r, b)] }) k = if okD bef i dn ⟨[r'], [r]⟩ = true then k ((i, ⟨[r'], [r]⟩) :: dn) (S n f dfs (h.set r b)) else none := by
  rw [← Bool.cond_eq_ite]; rfl
theorem stepD_nwS {t : Tmp} {v : V} {b : Blk} : stepD (S n f dfs h) (some t) i bef dn (some { v := v, nw := [b] }) k = if okD bef i dn ⟨[], [h.n]⟩ = true then k ((i, ⟨[], [h.n]⟩) :: dn) (S n (at1 f t v) dfs (h.new b)) else none := by
  rw [← Bool.cond_eq_ite]
  show cond (okD bef i dn ⟨[], [h.n]⟩) (k ((i, ⟨[], [h.n]⟩) :: dn) ⟨(mkT 20 n f).set t v, dfs, h.new b⟩) none = _
  rw [set_mkT]; rfl
end
theorem okD_wr {bef : List Nat} {i j a b : Nat} {dn : List (Nat × Foot)} (h : a ≠ b) : okD bef i ((j, ⟨[b], []⟩) :: dn) ⟨[a], [a]⟩ = okD bef i dn ⟨[a], [a]⟩ := okD_apart (by simp [Foot.apart, apart, h])
theorem okD_ww {bef : List Nat} {i j a b : Nat} {dn : List (Nat × Foot)} (h : a ≠ b) : okD bef i ((j, ⟨[b], [b]⟩) :: dn) ⟨[a], [a]⟩ = okD bef i dn ⟨[a], [a]⟩ := okD_apart (by simp [Foot.apart, apart, h])
theorem okD_rw {bef : List Nat} {i j a b : Nat} {dn : List (Nat × Foot)} (h : a ≠ b) : okD bef i ((j, ⟨[b], [b]⟩) :: dn) ⟨[a], []⟩ = okD bef i dn ⟨[a], []⟩ := okD_apart (by simp [Foot.apart, apart, h])
theorem apart_one {a b : Nat} (h : a ≠ b) : Foot.apart ⟨[a], [a]⟩ ⟨[b], [b]⟩ = true := by
  simp [Foot.apart, apart, h]
theorem apart_wr {a b : Nat} (h : a ≠ b) : Foot.apart ⟨[a], [a]⟩ ⟨[b], []⟩ = true := by
  simp [Foot.apart, apart, h]
theorem apart_rd {a b : Nat} (h : a ≠ b) : Foot.apart ⟨[a], []⟩ ⟨[b], [b]⟩ = true := by
  simp [Foot.apart, apart, h]
theorem apart_nw {a b : Nat} (h : a ≠ b) : Foot.apart ⟨[], [a]⟩ ⟨[b], []⟩ = true := by
  simp [Foot.apart, apart, h]
theorem apart_nn {a b : Nat} (h : a ≠ b) : Foot.apart ⟨[], [a]⟩ ⟨[], [b]⟩ = true := by
  simp [Foot.apart, apart, h]
theorem apart_wn {a b : Nat} (h : a ≠ b) : Foot.apart ⟨[a], [a]⟩ ⟨[], [b]⟩ = true := by
  simp [Foot.apart, apart, h]
theorem apart_rn {a b : Nat} (h : a ≠ b) : Foot.apart ⟨[a], []⟩ ⟨[], [b]⟩ = true := by
  simp [Foot.apart, apart, h]
theorem apart_nw' {a b : Nat} (h : a ≠ b) : Foot.apart ⟨[], [a]⟩ ⟨[b], [b]⟩ = true := by
  simp [Foot.apart, apart, h]

section
variable (P : Program) (hint : Hint) (known : Known)

def Qd (c : Code) (bef : List Nat) (j : Nat) (cx : Cx) (dn : List (Nat × Foot)) (s : St) : Option (List (Ex × St)) :=
  match (opsD P hint known cx.fn (regOps c) bef (((regOps c).toList.drop j).zipIdx j)).run (EV P hint known) dn s with
  | some s => some [(.normal, s)]
  | none => none

def endsV (fn : Func) (x : Option (List (Ex × St))) : Option (List (R × H)) :=
  match x with
  | some outs => allO (endE P known (EV P hint known) fn) outs
  | none => none

def resV (x : Option (List V)) (h : H) : Option (List (R × H)) :=
  match x with
  | some [v] => some [(.ret v, h)]
  | some vs => some [(.ret (.tup vs), h)]
  | none => none

/-- The arguments, laid into temporaries. -/
def setF : List V → Nat → (Nat → V) → Nat → V
  | [], _, f => f
  | v :: vs, i, f => setF vs (i + 1) (at1 f i v)

theorem setArgs_mkT (n : Nat) : ∀ (vs : List V) (i : Nat) (f : Nat → V), setArgs vs i (mkT 20 n f) = mkT 20 n (setF vs i f)
  | [], _, _ => rfl
  | v :: vs, i, f => by
    show setArgs vs (i + 1) ((mkT 20 n f).set i v) = _
    rw [set_mkT, setArgs_mkT n vs]; rfl

variable {P hint known}

theorem Qd_cons {c : Code} {bef : List Nat} {j : Nat} {o : Oper} {l : List Oper} {cx : Cx} (h : (regOps c).toList.drop j = o :: l) (dn : List (Nat × Foot)) (s : St) :
    Qd P hint known c bef j cx dn s = if (wantX (regOps c) o).run s.regs then stepD s o.dst j bef dn ((opD P hint known cx.fn o).run (EV P hint known) s.regs s.h.get s.h.n) (Qd P hint known c bef (j + 1) cx)
      else Qd P hint known c bef (j + 1) cx dn { s with regs := put s.regs o.dst undefV } := by
  have hl : l = (regOps c).toList.drop (j + 1) := by
    have := congrArg List.tail h
    rw [List.tail_drop] at this
    exact this.symm
  subst hl
  unfold Qd
  rw [h, List.zipIdx_cons]
  show (match (if (wantX (regOps c) o).run s.regs then
      match (opD P hint known cx.fn o).run (EV P hint known) s.regs s.h.get s.h.n with
      | some e => match e with
        | ⟨v, [], [], [], false⟩ => (opsD P hint known cx.fn (regOps c) bef (((regOps c).toList.drop (j + 1)).zipIdx (j + 1))).run (EV P hint known) dn { s with regs := put s.regs o.dst v }
        | e => if dn.all (fun (i, f') => (bef.getD j 0).testBit i || (e.foot s.h.n).apart f') then (opsD P hint known cx.fn (regOps c) bef (((regOps c).toList.drop (j + 1)).zipIdx (j + 1))).run (EV P hint known) ((j, e.foot s.h.n) :: dn) (s.eff o e) else none
      | none => none
    else (opsD P hint known cx.fn (regOps c) bef (((regOps c).toList.drop (j + 1)).zipIdx (j + 1))).run (EV P hint known) dn { s with regs := put s.regs o.dst undefV }) with
    | some s => some [(Ex.normal, s)]
    | none => none) = _
  by_cases hw : (wantX (regOps c) o).run s.regs = true
  · rw [if_pos hw, if_pos hw]
    cases (opD P hint known cx.fn o).run (EV P hint known) s.regs s.h.get s.h.n with
    | none => rfl
    | some e =>
      have key : ∀ e : Eff, (match (if dn.all (fun (i, f') => (bef.getD j 0).testBit i || (e.foot s.h.n).apart f') then (opsD P hint known cx.fn (regOps c) bef (((regOps c).toList.drop (j + 1)).zipIdx (j + 1))).run (EV P hint known) ((j, e.foot s.h.n) :: dn) (s.eff o e) else none) with
          | some s => some [(Ex.normal, s)]
          | none => none) = cond (dn.all fun p => (bef.getD j 0).testBit p.1 || (e.foot s.h.n).apart p.2) (Qd P hint known c bef (j + 1) cx ((j, e.foot s.h.n) :: dn) { s with regs := put s.regs o.dst e.v, h := e.apply s.h }) none := by
        intro e
        cases hb : dn.all fun p => (bef.getD j 0).testBit p.1 || (e.foot s.h.n).apart p.2
        · rfl
        · rfl
      obtain ⟨v, rd, wr, nw, pan⟩ := e
      rcases rd with _ | ⟨r, rd⟩
      · rcases wr with _ | ⟨w, wr⟩
        · rcases nw with _ | ⟨b, nw⟩
          · cases pan
            · rfl
            · exact key _
          · exact key _
        · exact key _
      · exact key _
  · rw [if_neg hw, if_neg hw]

theorem opD_exec {fn : FuncId} {o : Oper} (h : opIsX o.op = true) (E : Ev) (regs : T V) (get : Nat → Blk) (n : Nat) :
    (opD P hint known fn o).run E regs get n = (exec P (hint.rows fn o.dst) o.op).run regs get n := by
  unfold opD
  split
  · rename_i c hc
    split
    · rfl
    · rename_i hb
      rw [hc] at h
      unfold opIsX at h
      simp only at h
      first | (split at h
               · rename_i b hb'; exact absurd hb' (hb b)
               · cases h) | cases h
  · rfl

theorem Qd_step {fn : FuncId} {r : Option Nat} {c : Code} {bef : List Nat} {j : Nat} {d : Option Tmp} {x : T V → (Nat → Blk) → Nat → Option Eff} (h : stpAt P hint fn c j = some ⟨d, none, x⟩) (dn : List (Nat × Foot)) (s : St) :
    Qd P hint known c bef j ⟨fn, r⟩ dn s = stepD s d j bef dn (x s.regs s.h.get s.h.n) (Qd P hint known c bef (j + 1) ⟨fn, r⟩) := by
  obtain ⟨o, l, h1, h2, h3⟩ := stpAt_inv h
  obtain ⟨h4, h5⟩ := guard_cases h3
  cases h4
  rw [Qd_cons h1, h5, if_pos rfl, opD_exec h2]

theorem Qd_stepG {fn : FuncId} {r : Option Nat} {c : Code} {bef : List Nat} {j : Nat} {d : Option Tmp} {g : Tmp} {w : Bool} {x : T V → (Nat → Blk) → Nat → Option Eff} (h : stpAt P hint fn c j = some ⟨d, some (g, w), x⟩) (dn : List (Nat × Foot)) (s : St) :
    Qd P hint known c bef j ⟨fn, r⟩ dn s = cond (wantB (s.regs.get undefV g) w) (stepD s d j bef dn (x s.regs s.h.get s.h.n) (Qd P hint known c bef (j + 1) ⟨fn, r⟩)) (Qd P hint known c bef (j + 1) ⟨fn, r⟩ dn { s with regs := put s.regs d undefV }) := by
  obtain ⟨o, l, h1, h2, h3⟩ := stpAt_inv h
  obtain ⟨h4, h5⟩ := guard_cases h3
  cases h4
  rw [Qd_cons h1, h5, opD_exec h2]
  show (if wantB (s.regs.get undefV g) w = true then _ else _) = _
  cases hb : wantB (s.regs.get undefV g) w
  · rw [if_neg (by simp)]; rfl
  · rw [if_pos rfl]; rfl

theorem Qd_stepI {fn : FuncId} {r : Option Nat} {c : Code} {bef : List Nat} {j : Nat} {d : Option Tmp} {g : Tmp} {w : Bool} {x : T V → (Nat → Blk) → Nat → Option Eff} (h : stpAt P hint fn c j = some ⟨d, some (g, w), x⟩) (dn : List (Nat × Foot)) (s : St) :
    Qd P hint known c bef j ⟨fn, r⟩ dn s = if wantB (s.regs.get undefV g) w = true then stepD s d j bef dn (x s.regs s.h.get s.h.n) (Qd P hint known c bef (j + 1) ⟨fn, r⟩) else Qd P hint known c bef (j + 1) ⟨fn, r⟩ dn { s with regs := put s.regs d undefV } := by
  rw [← Bool.cond_eq_ite]; exact Qd_stepG h dn s
theorem Qo_stepI {fn : FuncId} {r : Option Nat} {c : Code} {j : Nat} {d : Option Tmp} {g : Tmp} {w : Bool} {x : T V → (Nat → Blk) → Nat → Option Eff} (h : stpAt P hint fn c j = some ⟨d, some (g, w), x⟩) (s : St) :
    Qo P hint known c j ⟨fn, r⟩ s = if wantB (s.regs.get undefV g) w = true then stepV s d (x s.regs s.h.get s.h.n) (Qo P hint known c (j + 1) ⟨fn, r⟩) else Qo P hint known c (j + 1) ⟨fn, r⟩ { s with regs := put s.regs d undefV } := by
  rw [← Bool.cond_eq_ite]; exact Qo_stepG h s
theorem Qo_callI {fn : FuncId} {r : Option Nat} {c : Code} {j : Nat} {d : Option Tmp} {g : Tmp} {w : Bool} {x : T V → Option Callee1} (h : stpC P c j = some ⟨d, some (g, w), x⟩) (s : St) :
    Qo P hint known c j ⟨fn, r⟩ s = if wantB (s.regs.get undefV g) w = true then thenC d s (callX P hint known (x s.regs) s.h) (Qo P hint known c (j + 1) ⟨fn, r⟩) else Qo P hint known c (j + 1) ⟨fn, r⟩ { s with regs := put s.regs d undefV } := by
  rw [← Bool.cond_eq_ite]; exact Qo_callG h s

/-- An operation's effect in a state. -/
def stpR (P : Program) (hint : Hint) (fn : FuncId) (c : Code) (j : Nat) (regs : T V) (get : Nat → Blk) (nid : Nat) : Option (Option Tmp × Option (Tmp × Bool) × Option Eff) :=
  (stpAt P hint fn c j).map fun st => (st.d, st.g, st.x regs get nid)
def stpCR (P : Program) (c : Code) (j : Nat) (regs : T V) : Option (Option Tmp × Option (Tmp × Bool) × Option Callee1) :=
  (stpC P c j).map fun st => (st.d, st.g, st.x regs)
theorem stpR_inv {fn : FuncId} {c : Code} {j : Nat} {regs : T V} {get : Nat → Blk} {nid : Nat} {d : Option Tmp} {g : Option (Tmp × Bool)} {e : Option Eff} (h : stpR P hint fn c j regs get nid = some (d, g, e)) : ∃ x, stpAt P hint fn c j = some ⟨d, g, x⟩ ∧ x regs get nid = e := by
  unfold stpR at h
  cases hs : stpAt P hint fn c j with
  | none => rw [hs] at h; cases h
  | some st =>
    rw [hs] at h
    obtain ⟨d', g', x⟩ := st
    cases h
    exact ⟨x, rfl, rfl⟩
theorem stpCR_inv {c : Code} {j : Nat} {regs : T V} {d : Option Tmp} {g : Option (Tmp × Bool)} {e : Option Callee1} (h : stpCR P c j regs = some (d, g, e)) : ∃ x, stpC P c j = some ⟨d, g, x⟩ ∧ x regs = e := by
  unfold stpCR at h
  cases hs : stpC P c j with
  | none => rw [hs] at h; cases h
  | some st =>
    rw [hs] at h
    obtain ⟨d', g', x⟩ := st
    cases h
    exact ⟨x, rfl, rfl⟩
section
variable {fn : FuncId} {r : Option Nat} {c : Code} {bef : List Nat} {j : Nat} {d : Option Tmp} {g : Tmp} {w : Bool} {e : Option Eff} {ce : Option Callee1} {dn : List (Nat × Foot)} {s : St}
theorem oR (h : stpR P hint fn c j s.regs s.h.get s.h.n = some (d, none, e)) : Qo P hint known c j ⟨fn, r⟩ s = stepV s d e (Qo P hint known c (j + 1) ⟨fn, r⟩) := by
  obtain ⟨x, h1, rfl⟩ := stpR_inv h
  exact Qo_step h1 s
theorem oI (h : stpR P hint fn c j s.regs s.h.get s.h.n = some (d, some (g, w), e)) : Qo P hint known c j ⟨fn, r⟩ s = if wantB (s.regs.get undefV g) w = true then stepV s d e (Qo P hint known c (j + 1) ⟨fn, r⟩) else Qo P hint known c (j + 1) ⟨fn, r⟩ (skipS s d) := by
  obtain ⟨x, h1, rfl⟩ := stpR_inv h
  exact Qo_stepI h1 s
theorem dR (h : stpR P hint fn c j s.regs s.h.get s.h.n = some (d, none, e)) : Qd P hint known c bef j ⟨fn, r⟩ dn s = stepD s d j bef dn e (Qd P hint known c bef (j + 1) ⟨fn, r⟩) := by
  obtain ⟨x, h1, rfl⟩ := stpR_inv h
  exact Qd_step h1 dn s
theorem dI (h : stpR P hint fn c j s.regs s.h.get s.h.n = some (d, some (g, w), e)) : Qd P hint known c bef j ⟨fn, r⟩ dn s = if wantB (s.regs.get undefV g) w = true then stepD s d j bef dn e (Qd P hint known c bef (j + 1) ⟨fn, r⟩) else Qd P hint known c bef (j + 1) ⟨fn, r⟩ dn (skipS s d) := by
  obtain ⟨x, h1, rfl⟩ := stpR_inv h
  exact Qd_stepI h1 dn s
theorem cR {f : FuncId} {args : List V} (h : stpCR P c j s.regs = some (d, none, some (.func f args))) : Qo P hint known c j ⟨fn, r⟩ s = thenC d s (callS P hint known f args s.h) (Qo P hint known c (j + 1) ⟨fn, r⟩) := by
  obtain ⟨x, h1, h2⟩ := stpCR_inv h
  rw [Qo_call h1 s, h2]; rfl
theorem cI {f : FuncId} {args : List V} (h : stpCR P c j s.regs = some (d, some (g, w), some (.func f args))) : Qo P hint known c j ⟨fn, r⟩ s = if wantB (s.regs.get undefV g) w = true then thenC d s (callS P hint known f args s.h) (Qo P hint known c (j + 1) ⟨fn, r⟩) else Qo P hint known c (j + 1) ⟨fn, r⟩ (skipS s d) := by
  obtain ⟨x, h1, h2⟩ := stpCR_inv h
  rw [Qo_callI h1 s, h2]; rfl
theorem xR (h : stpCR P c j s.regs = some (d, none, ce)) : Qo P hint known c j ⟨fn, r⟩ s = thenC d s (callX P hint known ce s.h) (Qo P hint known c (j + 1) ⟨fn, r⟩) := by
  obtain ⟨x, h1, rfl⟩ := stpCR_inv h
  exact Qo_call h1 s
end

theorem Qd_end {c : Code} {bef : List Nat} {j : Nat} {cx : Cx} (h : (regOps c).toList.drop j = []) (dn : List (Nat × Foot)) (s : St) : Qd P hint known c bef j cx dn s = some [(.normal, s)] := by
  unfold Qd; rw [h]; rfl

/-- A region whose order is drawn. -/
theorem Qc_draw {c : Code} {id : Nat} {ops : Array Oper} {bef : List Nat} (h : c = .region id ops true) (hr : regOk ops = true) (hb : (Region.before ops).toList = bef) {cx : Cx} (hf : hint.fix cx.fn id = []) (s : St) :
    Qc P hint known cx c s = Qd P hint known c bef 0 cx [] s := by
  subst h; subst hb
  rw [Qc, EV_code']
  unfold codeX
  simp only [if_true]
  rw [if_pos hr]
  show (match (opsD P hint known cx.fn ops (Region.before ops).toList ops.toList.zipIdx).run (EV P hint known) [] s with
        | some s => match fixS hint cx id s with
          | some r => some [r]
          | none => none
        | none => none) = (match (opsD P hint known cx.fn ops (Region.before ops).toList ops.toList.zipIdx).run (EV P hint known) [] s with
        | some s => some [(Ex.normal, s)]
        | none => none)
  cases (opsD P hint known cx.fn ops (Region.before ops).toList ops.toList.zipIdx).run (EV P hint known) [] s with
  | none => rfl
  | some s =>
    simp only
    unfold fixS
    rw [hf]

/-! ### Functions -/

theorem EV_fun {f : FuncId} {fn : Func} {c : Code} {n : Nat} (hf : P.funcs[f]? = some fn) (hc : fn.body = some c) (hn : fn.ntmps = n) (hn2 : n < 1048576) {args : List V} (ha : args.length ≤ n) (h : H) :
    (EV P hint known).call f args h = endsV P hint known fn (Qc P hint known ⟨f, none⟩ c (S n (setF args 0 fun _ => undefV) [] h)) := by
  rw [EV_call']
  unfold funcX
  rw [hf]
  simp only
  rw [hc]
  show (if Nat.ble args.length fn.ntmps && Nat.blt fn.ntmps 1048576 then
        match (EV P hint known).code { fn := f, round := none } c { regs := setArgs args 0 (T.fill undefV 20 fn.ntmps), dfs := [], h := h } with
        | some outs => allO (endE P known (EV P hint known) fn) outs
        | none => none
      else none) = _
  rw [hn, if_pos, fill_mkT, setArgs_mkT]
  · rfl
  · rw [Bool.and_eq_true]
    exact ⟨Nat.ble_eq ▸ ha, by rw [Nat.blt_eq]; exact hn2⟩

theorem ends_one {fn : Func} {l : List ResultVar} (hl : fn.results.toList = l) {x : Ex} (hx : x = .ret ∨ x = .normal) (regs : T V) (h : H) :
    endsV P hint known fn (some [(x, ⟨regs, [], h⟩)]) = resV (resultVs P ⟨regs, [], h⟩ l) h := by
  have h1 : endE P known (EV P hint known) fn (x, ⟨regs, [], h⟩) = match resultsV P fn ⟨regs, [], h⟩ with
      | some v => some (.ret v, h)
      | none => none := by
    rcases hx with rfl | rfl <;> rfl
  show allO _ _ = _
  unfold allO
  rw [h1]
  unfold resultsV resV
  rw [hl]
  cases resultVs P ⟨regs, [], h⟩ l with
  | none => rfl
  | some vs =>
    rcases vs with _ | ⟨v, _ | ⟨w, vs⟩⟩ <;> rfl

theorem ends_ret {fn : Func} {l : List ResultVar} (hl : fn.results.toList = l) (n : Nat) (f : Nat → V) (h : H) :
    endsV P hint known fn (some [(.ret, S n f [] h)]) = resV (resultVs P (S n f [] h) l) h := ends_one hl (Or.inl rfl) _ _
theorem ends_normal {fn : Func} {l : List ResultVar} (hl : fn.results.toList = l) (n : Nat) (f : Nat → V) (h : H) :
    endsV P hint known fn (some [(.normal, S n f [] h)]) = resV (resultVs P (S n f [] h) l) h := ends_one hl (Or.inr rfl) _ _

/-- A call whose arguments refer to no block, whose result is frozen. -/
theorem callS_ret {f : FuncId} {args args' : List V} {v : V} {h1 : H} (hs : V.seals args = args') (hp : V.pures args' = true) (hk : known.call f args' = none) (hh : hint.heap f = false)
    (hc : (EV P hint known).call f args' H.empty = some [(.ret v, h1)]) (n : Nat) (e : Eff) (he : retok n h1 v = some e) (hpan : e.pan = false) (h : H) (hn : h.n = n) :
    callS P hint known f args h = some [(.ret e.v, e.apply h)] := by
  subst hs; subst hn
  unfold callS
  rw [if_pos hp]
  have : callP hint known (EV P hint known) f (V.seals args) h.n = some [e] := by
    unfold callP
    rw [hk]
    simp only
    rw [hc]
    simp only
    have hl : leaveE hint f h.n (.ret v, h1) = some e := by
      show (if hint.heap f then _ else _) = _
      rw [if_neg (by rw [hh]; simp), he]
    unfold allO
    rw [hl]
    rfl
  rw [this]
  show some [(cond e.pan (R.pan e.v) (R.ret e.v), e.apply h)] = _
  rw [hpan]; rfl

theorem callS_heap {f : FuncId} {args : List V} (hp : V.pures (V.seals args) = false) (h : H) : callS P hint known f args h = (EV P hint known).call f args h := by
  unfold callS
  rw [hp]; rfl

/-- A slice literal. -/
def litS (P : Program) (hm : Bool) (t : TypeId) (len : Nat) (parts : List (Nat × V)) (nid : Nat) : Option Eff :=
  match litCells P t len parts with
  | some (cs, sz) => xLit hm nid len cs sz
  | none => none

/-- A range over a function: the heap at the call. -/
theorem Qc_range {c a b : Code} {t : Tmp} {ps : List Tmp} {pa : Array Tmp} (h : c = .rangeFunc (.tmp t) pa a b) (hp : pa.toList = ps) {fn n : Nat} {f : Nat → V} {dfs : List D} {hh : H}
    {gf : FuncId} {first cap : List V} (hf : (S n f dfs hh).regs.get undefV t = V.fn (.func gf) first cap) :
    Qc P hint known ⟨fn, none⟩ c (S n f dfs hh) = match (EV P hint known).call gf (first ++ [V.fn (.yield (hh.n + 1)) [] []] ++ cap) ((hh.new .dfr).new (.loop fn (mkT 20 n f) ps a b none .ready hh.n)) with
      | some outs => bindO (rangeE (EV P hint known) ⟨fn, none⟩ (S n f dfs hh) (.mark hh.n :: dfs) (hh.n + 1)) outs
      | none => none := by
  subst h; subst hp
  rw [Qc, EV_code']
  show (match rangeAt ⟨fn, none⟩ (S n f dfs hh), rd (S n f dfs hh).regs (.tmp t) with
    | some (d, dfs, h), some (V.fn (.func g) first cap) =>
      match (EV P hint known).call g (first ++ [V.fn (.yield h.n) [] []] ++ cap) (h.new (.loop fn (S n f dfs hh).regs pa.toList a b none .ready d)) with
      | some outs => bindO (rangeE (EV P hint known) ⟨fn, none⟩ (S n f dfs hh) dfs h.n) outs
      | none => none
    | _, _ => none) = _
  have h1 : rangeAt ⟨fn, none⟩ (S n f dfs hh) = some (hh.n, .mark hh.n :: dfs, hh.new .dfr) := rfl
  have h2 : rd (S n f dfs hh).regs (.tmp t) = some (V.fn (.func gf) first cap) := congrArg some hf
  rw [h1, h2]
  rfl

/-- Arguments of a round. -/
def setFs : List Tmp → List V → (Nat → V) → Nat → V
  | t :: ts, v :: vs, f => setFs ts vs (at1 f t v)
  | _, _, f => f
theorem setAll_mkT (n : Nat) : ∀ (ts : List Tmp) (vs : List V) (f : Nat → V), setAll ts vs (mkT 20 n f) = mkT 20 n (setFs ts vs f)
  | [], vs, f => by cases vs <;> rfl
  | t :: ts, [], f => rfl
  | t :: ts, v :: vs, f => by
    show setAll ts vs ((mkT 20 n f).set t v) = mkT 20 n (setFs ts vs (at1 f t v))
    rw [set_mkT, setAll_mkT n ts vs]

/-- A round that goes on. -/
theorem round_on {l fn n : Nat} {f f1 f2 : Nat → V} {ps : List Tmp} {a b : Code} {args : List V} {h h1 h2 : H} {pend pend2 : Option Code} {d : Nat}
    (hl : h.get l = .loop fn (mkT 20 n f) ps a b pend .ready d) (hp : args.length = ps.length)
    (ha : Qc P hint known ⟨fn, some l⟩ a (S n (setFs ps args f) [] h) = some [(.normal, S n f1 [] h1)])
    {fn1 d1 : Nat} {regs1 : T V} {ps1 : List Tmp} {a1 b1 : Code} {pend1 : Option Code} (hl1 : h1.get l = .loop fn1 regs1 ps1 a1 b1 pend1 .ready d1)
    (hb : Qc P hint known ⟨fn, some l⟩ b (S n f1 [] (h1.set l (.loop fn1 regs1 ps1 a1 b1 pend1 .busy d1))) = some [(.normal, S n f2 [] h2)])
    {fn2 d2 : Nat} {regs2 : T V} {ps2 : List Tmp} {a2 b2 : Code} (hl2 : h2.get l = .loop fn2 regs2 ps2 a2 b2 pend2 .busy d2) :
    callX P hint known (some (.round l args)) h = some [(.ret (.bool true), h2.set l (.loop fn2 regs2 ps2 a2 b2 none .ready d2))] := by
  have key : roundE (EV P hint known) h l args = some [(.bool true, h2.set l (.loop fn2 regs2 ps2 a2 b2 none .ready d2))] := by
    unfold roundE
    rw [hl]
    simp only
    rw [if_pos hp, setAll_mkT]
    have e1 : (EV P hint known).code ⟨fn, some l⟩ a ⟨mkT 20 n (setFs ps args f), [], h⟩ = some [(.normal, S n f1 [] h1)] := ha
    rw [e1]
    simp only
    have e2 : (S n f1 [] h1).h.get l = .loop fn1 regs1 ps1 a1 b1 pend1 .ready d1 := hl1
    rw [e2]
    simp only
    have e3 : (EV P hint known).code ⟨fn, some l⟩ b { S n f1 [] h1 with h := (S n f1 [] h1).h.set l (.loop fn1 regs1 ps1 a1 b1 pend1 .busy d1) } = some [(.normal, S n f2 [] h2)] := hb
    rw [e3]
    have e4 : endRoundE l (.normal, S n f2 [] h2) = some (.bool true, h2.set l (.loop fn2 regs2 ps2 a2 b2 none .ready d2)) := by
      unfold endRoundE
      have e5 : (S n f2 [] h2).h.get l = .loop fn2 regs2 ps2 a2 b2 pend2 .busy d2 := hl2
      show (match (S n f2 [] h2).dfs, (S n f2 [] h2).h.get l with
        | [], .loop fn' regs' params' assign' body' _ .busy dfr' => some (V.bool true, (S n f2 [] h2).h.set l (.loop fn' regs' params' assign' body' none .ready dfr'))
        | _, _ => none) = _
      rw [e5]; rfl
    show allO (endRoundE l) [(.normal, S n f2 [] h2)] = _
    unfold allO
    rw [e4]; rfl
  unfold callX
  simp only
  rw [key]; rfl

/-- A range's end. -/
theorem range_end {cx : Cx} {s : St} {dfs : List D} {l : Nat} {v : V} {h : H} {fn d : Nat} {regs : T V} {ps : List Tmp} {a b : Code} (hl : h.get l = .loop fn regs ps a b none .ready d) :
    bindO (rangeE (EV P hint known) cx s dfs l) [(.ret v, h)] = some [(.normal, { s with dfs, h := h.set l (.loop fn regs ps a b none .exhausted d) })] := by
  show rangeE (EV P hint known) cx s dfs l (.ret v, h) = _
  unfold rangeE
  simp only
  rw [hl]
  rfl

/-- A function's end behind a range over a function. -/
theorem ends_mark {fn : Func} {l : List ResultVar} (hl : fn.results.toList = l) {n r : Nat} {f : Nat → V} {h : H} (hr : h.get r = .dfr) :
    endsV P hint known fn (some [(.ret, S n f [.mark r] h)]) = resV (resultVs P (S n f [] (h.set r .gone)) l) (h.set r .gone) := by
  have h1 : endE P known (EV P hint known) fn (.ret, S n f [.mark r] h) = match resultVs P (S n f [.mark r] (h.set r .gone)) l with
      | some [v] => some (.ret v, h.set r .gone)
      | some vs => some (.ret (.tup vs), h.set r .gone)
      | none => none := by
    unfold endE
    have e1 : unwindE P known (EV P hint known) [.mark r] none h = some (none, h.set r .gone) := by
      unfold unwindE
      rw [hr]; rfl
    show (match unwindE P known (EV P hint known) [.mark r] none h with
    | some (none, h) => match resultsV P fn { S n f [.mark r] h with h } with
      | some v => some (R.ret v, h)
      | none => none
    | some (.some v, h) => some (R.pan v, h)
    | none => none) = _
    rw [e1]
    show (match resultsV P fn (S n f [.mark r] (h.set r .gone)) with
      | some v => some (R.ret v, h.set r .gone)
      | none => none) = _
    unfold resultsV
    rw [hl]
    cases resultVs P (S n f [.mark r] (h.set r .gone)) l with
    | none => rfl
    | some vs => rcases vs with _ | ⟨v, _ | ⟨w, vs⟩⟩ <;> rfl
  have h2 : ∀ l, resultVs P (S n f [.mark r] (h.set r .gone)) l = resultVs P (S n f [] (h.set r .gone)) l := by
    intro l
    induction l with
    | nil => rfl
    | cons a l ih =>
      unfold resultVs
      rw [ih]
      have : resultV P (S n f [.mark r] (h.set r .gone)) a = resultV P (S n f [] (h.set r .gone)) a := by cases a <;> rfl
      rw [this]
  show allO _ _ = _
  unfold allO
  rw [h1, h2]
  unfold resV
  cases resultVs P (S n f [] (h.set r .gone)) l with
  | none => rfl
  | some vs => rcases vs with _ | ⟨v, _ | ⟨w, vs⟩⟩ <;> rfl

end
end Go.Ae

/- Symbolic steps: the laws for the simplifier. -/
namespace Go.Ae

/-- A result that lies in a cell. -/
def cellV (P : Program) (t : TypeId) (h : H) (v : V) : Option V :=
  match v with
  | .ptr r off => match h.get r with
    | .row _ cs => if off ≤ cs.length then loadV P t (cs.drop off) else none
    | _ => none
  | _ => none

section
variable {P : Program} {hint : Hint} {known : Known} {n : Nat} {f : Nat → V} {dfs : List D} {h : H} {k : St → Option (List (Ex × St))}

theorem S_regs : (S n f dfs h).regs = mkT 20 n f := rfl
theorem S_dfs : (S n f dfs h).dfs = dfs := rfl
theorem S_h : (S n f dfs h).h = h := rfl
theorem S_get {t : Nat} (h1 : t < n) (h2 : n < 1048576) : T.get undefV (S n f dfs h).regs t = f t := rd_S h1 h2

theorem stepV_v {t : Tmp} {v : V} : stepV (S n f dfs h) (some t) (some { v := v }) k = k (S n (at1 f t v) dfs h) := by
  show k ⟨(mkT 20 n f).set t v, dfs, h⟩ = _
  rw [set_mkT]; rfl
theorem stepV_some {t : Tmp} {e : Eff} : stepV (S n f dfs h) (some t) (some e) k = k (S n (at1 f t e.v) dfs (e.apply h)) := by
  show k ⟨(mkT 20 n f).set t e.v, dfs, e.apply h⟩ = _
  rw [set_mkT]; rfl
theorem stepV_drop {e : Eff} : stepV (S n f dfs h) none (some e) k = k (S n f dfs (e.apply h)) := rfl

theorem put_S {t : Tmp} {v : V} : (St.mk (put (S n f dfs h).regs (some t) v) (S n f dfs h).dfs (S n f dfs h).h) = S n (at1 f t v) dfs h := by
  show St.mk ((mkT 20 n f).set t v) dfs h = _
  rw [set_mkT]; rfl

theorem thenC_ret {t : Tmp} {v : V} {h' : H} : thenC (some t) (S n f dfs h) (some [(.ret v, h')]) k = k (S n (at1 f t v) dfs h') := by
  show k ⟨(mkT 20 n f).set t v, dfs, h'⟩ = _
  rw [set_mkT]; rfl

theorem apply_v {v : V} {rs : List Nat} : Eff.apply { v := v, rd := rs } h = h := rfl
theorem apply_wr {v : V} {rs : List Nat} {r : Nat} {b : Blk} : Eff.apply { v := v, rd := rs, wr := [(r, b)] } h = h.set r b := rfl
theorem apply_nw {v : V} {rs : List Nat} {b : Blk} : Eff.apply { v := v, rd := rs, nw := [b] } h = h.new b := rfl
theorem apply_wn {v : V} {rs : List Nat} {r : Nat} {b c : Blk} : Eff.apply { v := v, rd := rs, wr := [(r, b)], nw := [c] } h = (h.set r b).new c := rfl

theorem wantB_bool {b w : Bool} : wantB (.bool b) w = (b == w) := rfl
theorem valS {v : V} : val (some v) = some { v := v } := rfl
theorem condV_true {a b : St → Option (List (Ex × St))} {s : St} : condV (.bool true) a b s = a s := rfl
theorem condV_false {a b : St → Option (List (Ex × St))} {s : St} : condV (.bool false) a b s = b s := rfl

theorem binV_int {op : BinOp} {t : TypeId} {cx cy : Bool} {k k' : IntKind} {a b : Int} : binV P op t cx cy (.int k a) (.int k' b) = intOp op k a k' b := rfl
theorem binV_str {op : BinOp} {t : TypeId} {cx cy : Bool} {a b : ByteArray} : binV P op t cx cy (.str a) (.str b) = strOp op a b := rfl
theorem intOp_add {a b : Int} : intOp .add .i64 a .i64 b = some (.int .i64 (IntKind.wrap .i64 (a + b))) := rfl
theorem intOp_sub {a b : Int} : intOp .sub .i64 a .i64 b = some (.int .i64 (IntKind.wrap .i64 (a - b))) := rfl
theorem intOp_eql {a b : Int} : intOp .eql .i64 a .i64 b = some (.bool (a == b)) := rfl
theorem intOp_neq {a b : Int} : intOp .neq .i64 a .i64 b = some (.bool (a != b)) := rfl
theorem intOp_lss {a b : Int} : intOp .lss .i64 a .i64 b = some (.bool (decide (a < b))) := rfl
theorem intOp_leq {a b : Int} : intOp .leq .i64 a .i64 b = some (.bool (decide (a ≤ b))) := rfl
theorem intOp_gtr {a b : Int} : intOp .gtr .i64 a .i64 b = some (.bool (decide (a > b))) := rfl
theorem intOp_geq {a b : Int} : intOp .geq .i64 a .i64 b = some (.bool (decide (a ≥ b))) := rfl
theorem strOp_eql {a b : ByteArray} : strOp .eql a b = some (.bool (a.data.toList == b.data.toList)) := rfl
theorem strOp_neq {a b : ByteArray} : strOp .neq a b = some (.bool (!(a.data.toList == b.data.toList))) := rfl
theorem xPick_bool {c : Bool} {a b : V} : xPick (.bool c) a b = some { v := if c then a else b } := rfl
theorem xUn_not {b : Bool} : xUn .not (.bool b) = some { v := .bool !b } := rfl
theorem xExtract_tup {vs : List V} {i : Nat} : xExtract (.tup vs) i = val (vs[i]?) := rfl

theorem addrAdd_ptr {r off m : Nat} : addrAdd (.ptr r off) m = some (.ptr r (off + m)) := rfl
theorem addrAdd_iptr {cs : List V} {m : Nat} (hm : m ≤ cs.length) : addrAdd (.iptr cs) m = some (.iptr (cs.drop m)) := if_pos hm

theorem xNilCheck_ptr {r o : Nat} : xNilCheck P (.ptr r o) = some { v := .ptr r o } := rfl

/-- What is loaded. -/
theorem xLoad_iptr {t : TypeId} {get : Nat → Blk} {cs : List V} {v : V} (hv : loadV P t cs = some v) : xLoad P t get (.iptr cs) = some { v := v } := by
  show val (loadV P t cs) = _
  rw [hv]; rfl

theorem resultVs_nil {s : St} : resultVs P s [] = some [] := rfl
theorem resultVs_cons {s : St} {r : ResultVar} {rs : List ResultVar} : resultVs P s (r :: rs) = match resultV P s r, resultVs P s rs with
    | some v, some vs => some (v :: vs)
    | _, _ => none := rfl
theorem resultV_tmp {t : Tmp} (h1 : t < n) (h2 : n < 1048576) : resultV P (S n f dfs h) (.tmp t) = some (f t) := congrArg some (rd_S h1 h2)
theorem resultV_cell {a : Tmp} {t : TypeId} (h1 : a < n) (h2 : n < 1048576) : resultV P (S n f dfs h) (.cell a t) = cellV P t h (f a) := by
  unfold resultV cellV
  simp only
  rw [S_get h1 h2]; rfl
theorem cellV_ptr {t : TypeId} {r off : Nat} : cellV P t h (.ptr r off) = match h.get r with
      | .row _ cs => if off ≤ cs.length then loadV P t (cs.drop off) else none
      | _ => none := rfl
theorem resV_one {v : V} : resV (some [v]) h = some [(.ret v, h)] := rfl
theorem resV_two {v w : V} {vs : List V} : resV (some (v :: w :: vs)) h = some [(.ret (.tup (v :: w :: vs)), h)] := rfl
theorem resV_nil : resV (some []) h = some [(.ret (.tup []), h)] := rfl

/-- A call whose arguments and result refer to no block. -/
theorem callS_of {f : FuncId} {args args' : List V} {v v' : V} {h1 : H} (hs : V.seals args = args') (hp : V.pures args' = true) (hk : known.call f args' = none) (hh : hint.heap f = false)
    (hc : (EV P hint known).call f args' H.empty = some [(.ret v, h1)]) (hr : ∀ n, retok n h1 v = some { v := v' }) (h : H) :
    callS P hint known f args h = some [(.ret v', h)] :=
  callS_ret hs hp hk hh hc h.n { v := v' } (hr h.n) rfl h rfl
/-- A call that is known otherwise. -/
theorem callS_known {f : FuncId} {args args' : List V} {v : V} (hs : V.seals args = args') (hp : V.pures args' = true) (hk : known.call f args' = some v) (h : H) :
    callS P hint known f args h = some [(.ret v, h)] := by
  subst hs
  unfold callS
  rw [if_pos hp]
  have : callP hint known (EV P hint known) f (V.seals args) h.n = some [{ v := v }] := by
    unfold callP; rw [hk]
  rw [this]; rfl

/-- build, told by cells. -/
def fillC (place : Nat → Option (Nat × Nat)) (cells : List V) : List (Nat × List V) → Option (List V)
  | [] => some cells
  | (i, c) :: rest => match place i with
    | none => none
    | some (off, size) => if c.length = size then
        match splice cells c off with | some cs => fillC place cs rest | none => none
      else none
def buildC (P : Program) (t : TypeId) (parts : List (Nat × List V)) : Option V :=
  match zeroOf P t with
  | none => none
  | some z => match und P t with
    | .struct fs => if fs.toList.all (fun f => okT P f.type) then (fillC (fun i => fs.toList[i]?.map fun f => (f.offset, szOf P f.type)) z.cells parts).map .agg else none
    | .array _ e => if okT P e then (fillC (fun i => some (i * szOf P e, szOf P e)) z.cells parts).map .agg else none
    | _ => none
theorem fillV_C (place : Nat → Option (Nat × Nat)) : ∀ (parts : List (Nat × V)) (cells : List V), fillV place cells parts = fillC place cells (parts.map fun p => (p.1, p.2.cells))
  | [], _ => rfl
  | (i, v) :: rest, cells => by
    show (match place i with
      | none => none
      | some (off, size) => if v.cells.length = size then
          match splice cells v.cells off with | some cs => fillV place cs rest | none => none
        else none) = (match place i with
      | none => none
      | some (off, size) => if v.cells.length = size then
          match splice cells v.cells off with | some cs => fillC place cs (rest.map fun p => (p.1, p.2.cells)) | none => none
        else none)
    rcases place i with _ | ⟨off, size⟩
    · rfl
    · simp only
      cases splice cells v.cells off with
      | none => rfl
      | some cs => simp only; rw [fillV_C place rest cs]
theorem build_C {t : TypeId} {parts : List (Nat × V)} : build P t parts = buildC P t (parts.map fun p => (p.1, p.2.cells)) := by
  unfold build buildC
  simp only [fillV_C]
  cases zeroOf P t with
  | none => rfl
  | some z => cases und P t <;> rfl

theorem callOf_func {g : FuncId} {first cap args : List V} : callOf (.fn (.func g) first cap) args = some (.func g (first ++ args ++ cap)) := rfl
theorem callOf_yield {l : Nat} {args : List V} : callOf (.fn (.yield l) [] []) args = some (.round l args) := rfl
theorem callX_func {g : FuncId} {args : List V} : callX P hint known (some (.func g args)) h = callS P hint known g args h := rfl
theorem thenC_noret {v : V} {h' : H} : thenC none (S n f dfs h) (some [(.ret v, h')]) k = k (S n f dfs h') := rfl

/-- What code ends in. -/
def AeEnds (n : Nat) (Q : Ex → (Nat → V) → Nat → (Nat → Blk) → Prop) (x : Option (List (Ex × St))) : Prop :=
  ∃ e f nb g d, x = some [(e, S n f [] (mkH nb g d))] ∧ Q e f nb g
theorem AeEnds.mk {n : Nat} {Q : Ex → (Nat → V) → Nat → (Nat → Blk) → Prop} {e : Ex} {f : Nat → V} {nb : Nat} {g : Nat → Blk} {d : List Nat} (h : Q e f nb g) : AeEnds n Q (some [(e, S n f [] (mkH nb g d))]) := ⟨e, f, nb, g, d, rfl, h⟩
theorem AeEnds.weak {n : Nat} {Q Q' : Ex → (Nat → V) → Nat → (Nat → Blk) → Prop} {x : Option (List (Ex × St))} (h : AeEnds n Q x) (hq : ∀ e f nb g, Q e f nb g → Q' e f nb g) : AeEnds n Q' x := by
  obtain ⟨e, f, nb, g, d, hx, h⟩ := h
  exact ⟨e, f, nb, g, d, hx, hq _ _ _ _ h⟩

/-- What a call returns. -/
def AeRets (Q : V → Nat → (Nat → Blk) → Prop) (x : Option (List (R × H))) : Prop := ∃ v nb g d, x = some [(.ret v, mkH nb g d)] ∧ Q v nb g
theorem AeRets.mk {Q : V → Nat → (Nat → Blk) → Prop} {v : V} {nb : Nat} {g : Nat → Blk} {d : List Nat} (h : Q v nb g) : AeRets Q (some [(.ret v, mkH nb g d)]) := ⟨v, nb, g, d, rfl, h⟩

theorem wrap_i64 {x : Int} (h0 : -9223372036854775808 ≤ x) (h1 : x < 9223372036854775808) : IntKind.wrap .i64 x = x := by
  unfold IntKind.wrap
  simp [IntKind.bits, IntKind.signed]
  omega

/-- at1, of blocks. -/
def atB (g : Nat → Blk) (i : Nat) (b : Blk) : Nat → Blk := at1 g i b
theorem atB_same (g : Nat → Blk) (i : Nat) (b : Blk) : atB g i b i = b := at_same g i b
theorem atB_ne {i j : Nat} (g : Nat → Blk) (b : Blk) (h : j ≠ i) : atB g i b j = g j := at_ne g b h
theorem set_mkB (n : Nat) (g : Nat → Blk) (d : List Nat) (r : Nat) (b : Blk) : (mkH n g d).set r b = mkH n (atB g r b) (r :: d) := set_mkH n g d r b
theorem new_mkB (n : Nat) (g : Nat → Blk) (d : List Nat) (b : Blk) : (mkH n g d).new b = mkH (n + 1) (atB g n b) d := new_mkH n g d b
theorem at1_if {f : Nat → V} {i j : Nat} {v : V} : at1 f i v j = if j = i then v else f j := rfl

theorem one_int {k : IntKind} {x : Int} : V.one (.int k x) = true := rfl
theorem one_bool {x : Bool} : V.one (.bool x) = true := rfl
theorem one_str {x : ByteArray} : V.one (.str x) = true := rfl
theorem one_ptr {r o : Nat} : V.one (.ptr r o) = true := rfl
theorem one_nils : V.one .nils = true := rfl
theorem one_vs {cs : List V} {n z : Nat} {o : Own} : V.one (.vs cs n z o) = true := rfl
theorem cells_int {k : IntKind} {x : Int} : V.cells (.int k x) = [.int k x] := rfl

theorem max2 {get : Nat → Blk} {nid : Nat} {ts : List TypeId} {k k' : IntKind} {a b : Int} : builtinV P false get nid .max ts [.int k a, .int k' b] = some { v := .int k (if a < b then b else a) } := by
  cases ts <;> rfl
theorem eqBoolTT : (true = true) = True := eq_true rfl

theorem wantB_undef {w : Bool} : wantB undefV w = false := rfl

theorem cells_agg {cs : List V} : V.cells (.agg cs) = cs := rfl
theorem cells_bool {x : Bool} : V.cells (.bool x) = [.bool x] := rfl
theorem cells_str {x : ByteArray} : V.cells (.str x) = [.str x] := rfl
theorem cells_ptr {r o : Nat} : V.cells (.ptr r o) = [.ptr r o] := rfl
theorem cells_nils : V.cells .nils = [.nils] := rfl
theorem cells_vs {cs : List V} {n z : Nat} {o : Own} : V.cells (.vs cs n z o) = [.vs cs n z o] := rfl
theorem cells_tup {vs : List V} : V.cells (.tup vs) = [.tup vs] := rfl

theorem ext_0 {a : V} {l : List V} : xExtract (.tup (a :: l)) 0 = some { v := a } := rfl
theorem ext_1 {a b : V} {l : List V} : xExtract (.tup (a :: b :: l)) 1 = some { v := b } := rfl
theorem ext_2 {a b c : V} {l : List V} : xExtract (.tup (a :: b :: c :: l)) 2 = some { v := c } := rfl
theorem ext_3 {a b c d : V} {l : List V} : xExtract (.tup (a :: b :: c :: d :: l)) 3 = some { v := d } := rfl

/-- What code ends in that leaves the blocks alone. -/
def AeStay (n : Nat) (h : H) (Q : Ex → (Nat → V) → Prop) (x : Option (List (Ex × St))) : Prop := ∃ e f, x = some [(e, S n f [] h)] ∧ Q e f
theorem AeStay.mk {n : Nat} {h : H} {Q : Ex → (Nat → V) → Prop} {e : Ex} {f : Nat → V} (hq : Q e f) : AeStay n h Q (some [(e, S n f [] h)]) := ⟨e, f, rfl, hq⟩
theorem AeStay.weak {n : Nat} {h : H} {Q Q' : Ex → (Nat → V) → Prop} {x : Option (List (Ex × St))} (h1 : AeStay n h Q x) (hq : ∀ e f, Q e f → Q' e f) : AeStay n h Q' x := by
  obtain ⟨e, f, hx, h⟩ := h1
  exact ⟨e, f, hx, hq _ _ h⟩

end
end Go.Ae

/- What comes in: values that are read, as abstract values. -/
namespace Go.Ae
variable (P : Program)

mutual
/-- Cells of a type, as abstract values. -/
inductive Ty : TypeId → List V → Prop
  | bool {t : TypeId} {b : Bool} (h : P.underlying t = some .bool) : Ty t [.bool b]
  | int {t : TypeId} {k : IntKind} {n : Int} (h : P.underlying t = some (.int k)) (hn : (Lit.int k n).wf = true) : Ty t [.int k n]
  | str {t : TypeId} {s : ByteArray} (h : P.underlying t = some .string) (hs : s.size ≤ maxLen) : Ty t [.str s]
  | nils {t e : TypeId} (h : P.underlying t = some (.slice e)) : Ty t [.nils]
  | ze {t e : TypeId} (h : P.underlying t = some (.slice e)) : Ty t [.ze]
  | vs {t e : TypeId} {cells : List V} {n : Nat} (h : P.underlying t = some (.slice e)) (hn : n ≤ maxLen) (he : TyE e n cells) : Ty t [.vs cells n (szOf P e) .lock]
  | strct {t : TypeId} {fs : Array Field} {cells : List V} (h : P.underlying t = some (.struct fs)) (hf : TyF fs.toList cells) : Ty t cells
/-- Elements of a type. -/
inductive TyE : TypeId → Nat → List V → Prop
  | nil {e : TypeId} : TyE e 0 []
  | cons {e : TypeId} {n : Nat} {a b : List V} (h : Ty e a) (ht : TyE e n b) : TyE e (n + 1) (a ++ b)
/-- Fields. -/
inductive TyF : List Field → List V → Prop
  | nil : TyF [] []
  | cons {f : Field} {fs : List Field} {a b : List V} (h : Ty f.type a) (ht : TyF fs b) : TyF (f :: fs) (a ++ b)
end

/-- Fields lie one behind the other. -/
def tile : List Field → Nat → Nat → Bool
  | [], o, n => Nat.beq o n
  | f :: fs, o, n => Nat.beq f.offset o && tile fs (o + szOf P f.type) n

/-- Types of values without pointers, maps, functions and interfaces: all of a list. -/
def plainTs (S : List TypeId) : Bool := S.all fun t => match P.underlying t with
  | some .bool | some (.int _) | some .string => Nat.beq (szOf P t) 1
  | some (.slice e) => S.contains e && Nat.beq (szOf P t) 1 && Nat.blt 0 (szOf P e)
  | some (.struct fs) => fs.toList.all (fun f => S.contains f.type) && tile P fs.toList 0 (szOf P t)
  | _ => false

variable {P}

/-- What is in memory, as cells that no longer change. -/
def World.imm (w : World) : Imm := fun b o => w.cell? ⟨b, o, none⟩

/-- Cells in memory. -/
theorem vra_of {w : World} {b : Nat} : ∀ {cs : List V} {xs : List Value} {o : Nat}, vrl (World.imm w) At.bot cs xs → (∀ i, i < xs.length → w.cell? ⟨b, o + i, none⟩ = xs[i]?) → vra (World.imm w) b o cs
  | [], _, _, _, _ => by simp [vra]
  | v :: cs, xs, o, h, hx => by
    simp only [vrl] at h
    obtain ⟨z, zs, rfl, h1, h2⟩ := h
    simp only [vra]
    refine ⟨⟨z, ?_, h1⟩, vra_of h2 fun i hi => ?_⟩
    · have := hx 0 (by simp)
      simpa [World.imm] using this
    · have := hx (i + 1) (by simp; omega)
      rw [show o + 1 + i = o + (i + 1) by omega]
      simpa using this

theorem add_eq {w : World} {a : Addr} {m i : Nat} {y : Value} (h : w.cell? ((a.add m).add i) = some y) : w.cell? ⟨a.block, a.off + m + i, none⟩ = some y := by
  have hs := World.cell?_spot h
  have : (a.add m).add i = ⟨a.block, a.off + m + i, none⟩ := by
    cases a with
    | mk b o sp =>
      unfold Addr.add at hs ⊢
      by_cases hm : m = 0 <;> by_cases hi : i = 0 <;> simp [hm, hi] at hs ⊢
      exact hs
  rw [← this]; exact h

section
variable {H : Type} {enc : TypeId × Value → H} {w : World} {base : Nat} {held : Bool} {S : List TypeId}

theorem mem_plain (hS : plainTs P S = true) {t : TypeId} (ht : t ∈ S) : (match P.underlying t with
  | some .bool | some (.int _) | some .string => Nat.beq (szOf P t) 1
  | some (.slice e) => S.contains e && Nat.beq (szOf P t) 1 && Nat.blt 0 (szOf P e)
  | some (.struct fs) => fs.toList.all (fun f => S.contains f.type) && tile P fs.toList 0 (szOf P t)
  | _ => false) = true := List.all_eq_true.1 hS t ht

/-- Elements, read one by one. -/
theorem elems_in {e : TypeId} {fuel : Nat} {a : Addr} (ih : ∀ cs x, DataW.trod enc P w base (fun _ => true) held fuel e cs = some x → ∃ vs, Ty P e vs ∧ vrl (World.imm w) At.bot vs cs) :
    ∀ (n k : Nat) (xs : List (DataW H × List MemPlace)), ((List.range' k n).mapM fun i => (w.cells? base (a.add (i * P.cellsOf e)) (P.cellsOf e)).bind (DataW.trod enc P w base (fun _ => true) held fuel e)) = some xs →
      ∃ vs, TyE P e n vs ∧ vs.length = n * szOf P e ∧ (n = 0 ∨ k ≠ 0 ∨ szOf P e = 0 ∨ a.spot = none) ∧ vra (World.imm w) a.block (a.off + k * szOf P e) vs
  | 0, k, xs, _ => ⟨[], .nil, by simp, Or.inl rfl, by simp [vra]⟩
  | n + 1, k, xs, h => by
    rw [List.range'_succ, List.mapM_cons] at h
    cases h1 : (w.cells? base (a.add (k * P.cellsOf e)) (P.cellsOf e)).bind (DataW.trod enc P w base (fun _ => true) held fuel e) with
    | none => rw [h1] at h; cases h
    | some x =>
      rw [h1] at h
      cases h2 : ((List.range' (k + 1) n).mapM fun i => (w.cells? base (a.add (i * P.cellsOf e)) (P.cellsOf e)).bind (DataW.trod enc P w base (fun _ => true) held fuel e)) with
      | none =>
        have h' : (do let rest ← ((List.range' (k + 1) n).mapM fun i => (w.cells? base (a.add (i * P.cellsOf e)) (P.cellsOf e)).bind (DataW.trod enc P w base (fun _ => true) held fuel e)); pure (x :: rest)) = some xs := h
        rw [h2] at h'; cases h'
      | some ys =>
        obtain ⟨vs2, t2, l2, s2, r2⟩ := elems_in ih n (k + 1) ys h2
        cases h3 : w.cells? base (a.add (k * P.cellsOf e)) (P.cellsOf e) with
        | none => rw [h3] at h1; cases h1
        | some cs =>
          rw [h3] at h1
          obtain ⟨vs1, t1, r1⟩ := ih cs x h1
          obtain ⟨-, hl, hc⟩ := World.cells?_some h3
          have hsz : P.cellsOf e = szOf P e := rfl
          rw [hsz] at hl hc
          have hv1 : vs1.length = szOf P e := (vrl_len r1).symm.trans hl
          have hcell : ∀ i, i < szOf P e → w.cell? ⟨a.block, a.off + k * szOf P e + i, none⟩ = cs[i]? := by
            intro i hi
            have h0 := hc i hi
            have hci : cs[i]? = some (cs[i]'(by omega)) := List.getElem?_eq_getElem (by omega)
            rw [hci] at h0 ⊢
            exact add_eq h0
          refine ⟨vs1 ++ vs2, .cons t1 t2, by rw [List.length_append, hv1, l2, Nat.succ_mul]; omega, ?_, ?_⟩
          · rcases Nat.eq_zero_or_pos k with hk | hk
            · rcases Nat.eq_zero_or_pos (szOf P e) with h0 | h0
              · exact Or.inr (Or.inr (Or.inl h0))
              · right; right; right
                have h4 := hc 0 h0
                have hci : cs[0]? = some (cs[0]'(by omega)) := List.getElem?_eq_getElem (by omega)
                rw [hci] at h4
                have h5 := World.cell?_spot h4
                rw [hk, Nat.zero_mul] at h5
                simpa [Addr.add] using h5
            · exact Or.inr (Or.inl (by omega))
          · refine vra_append (vra_of r1 fun i hi => hcell i (by omega)) ?_
            rw [hv1, show a.off + k * szOf P e + szOf P e = a.off + (k + 1) * szOf P e by rw [Nat.succ_mul]; omega]
            exact r2

/-- Fields, read one by one. -/
theorem fields_in {fuel : Nat} {cs : List Value} (ih : ∀ t ∈ S, ∀ cs x, DataW.trod enc P w base (fun _ => true) held fuel t cs = some x → ∃ vs, Ty P t vs ∧ vrl (World.imm w) At.bot vs cs ∧ vs.length = szOf P t) :
    ∀ (fs : List Field) (o : Nat) (xs : List (DataW H × List MemPlace)), (∀ f ∈ fs, f.type ∈ S) → tile P fs o cs.length = true → (fs.mapM fun f => DataW.trod enc P w base (fun _ => true) held fuel f.type ((cs.drop f.offset).take (P.cellsOf f.type))) = some xs →
      ∃ vs, TyF P fs vs ∧ vrl (World.imm w) At.bot vs (cs.drop o) ∧ vs.length = cs.length - o
  | [], o, xs, _, ht, _ => by
    have : o = cs.length := Nat.eq_of_beq_eq_true ht
    subst this
    exact ⟨[], .nil, by simp [vrl], by simp⟩
  | f :: fs, o, xs, hS, ht, h => by
    unfold tile at ht
    rw [Bool.and_eq_true] at ht
    obtain ⟨h0, ht⟩ := ht
    have h0 : f.offset = o := Nat.eq_of_beq_eq_true h0
    rw [List.mapM_cons] at h
    cases h1 : DataW.trod enc P w base (fun _ => true) held fuel f.type ((cs.drop f.offset).take (P.cellsOf f.type)) with
    | none => rw [h1] at h; cases h
    | some x =>
      rw [h1] at h
      cases h2 : (fs.mapM fun f => DataW.trod enc P w base (fun _ => true) held fuel f.type ((cs.drop f.offset).take (P.cellsOf f.type))) with
      | none =>
        have h' : (do let rest ← (fs.mapM fun f => DataW.trod enc P w base (fun _ => true) held fuel f.type ((cs.drop f.offset).take (P.cellsOf f.type))); pure (x :: rest)) = some xs := h
        rw [h2] at h'; cases h'
      | some ys =>
        obtain ⟨vs1, t1, r1, l1⟩ := ih f.type (hS f (List.mem_cons_self ..)) _ x h1
        obtain ⟨vs2, t2, r2, l2⟩ := fields_in ih fs (o + szOf P f.type) ys (fun g hg => hS g (List.mem_cons_of_mem _ hg)) ht h2
        have hln := vrl_len r1
        rw [l1, h0, List.length_take, List.length_drop] at hln
        have hsz : P.cellsOf f.type = szOf P f.type := rfl
        rw [hsz] at hln
        refine ⟨vs1 ++ vs2, .cons t1 t2, ?_, ?_⟩
        · have := vrl_append r1 r2
          rw [h0, hsz, ← List.drop_drop, List.take_append_drop] at this
          exact this
        · rw [List.length_append, l1, l2]; omega

/-- What is read of a type, as abstract values. -/
theorem trod_in (hS : plainTs P S = true) : ∀ (fuel : Nat) (t : TypeId), t ∈ S → ∀ (cs : List Value) (x : DataW H × List MemPlace), DataW.trod enc P w base (fun _ => true) held fuel t cs = some x → ∃ vs, Ty P t vs ∧ vrl (World.imm w) At.bot vs cs ∧ vs.length = szOf P t
  | 0, t, ht, cs, x, h => by unfold DataW.trod at h; cases h
  | fuel + 1, t, ht, cs, x, h => by
    have ih := trod_in hS fuel
    have hp := mem_plain hS ht
    unfold DataW.trod at h
    split at h
    · rename_i b hu
      rw [hu] at hp
      exact ⟨[.bool b], .bool hu, by simp [vrl, vr], (Nat.eq_of_beq_eq_true hp).symm⟩
    · rename_i k k' n hu
      rw [hu] at hp
      split at h
      · rename_i hk
        obtain ⟨rfl, hw⟩ := hk
        exact ⟨[.int k' n], .int hu hw, by simp [vrl, vr], (Nat.eq_of_beq_eq_true hp).symm⟩
      · cases h
    · rename_i hu; rw [hu] at hp; cases hp
    · rename_i s hu
      rw [hu] at hp
      split at h
      · rename_i hk
        exact ⟨[.str s], .str hu hk, by simp [vrl, vr], (Nat.eq_of_beq_eq_true hp).symm⟩
      · cases h
    · rename_i hu; rw [hu] at hp; cases hp
    · rename_i hu; rw [hu] at hp; cases hp
    · rename_i e hu
      rw [hu] at hp
      simp only [Bool.and_eq_true] at hp
      exact ⟨[.nils], .nils hu, by simp [vrl, vr], (Nat.eq_of_beq_eq_true hp.1.2).symm⟩
    · rename_i e a len cap hu
      rw [hu] at hp
      simp only [Bool.and_eq_true] at hp
      obtain ⟨⟨he, hz⟩, hpos⟩ := hp
      have hz : szOf P t = 1 := Nat.eq_of_beq_eq_true hz
      have hpos : 0 < szOf P e := by simpa [Nat.blt_eq] using hpos
      have he : e ∈ S := by simpa using he
      simp only at h
      split at h
      · rename_i hb
        obtain ⟨hb1, hb2, hb3⟩ := hb
        cases h1 : ((List.range len).mapM fun i => (w.cells? base (a.add (i * P.cellsOf e)) (P.cellsOf e)).bind (DataW.trod enc P w base (fun _ => true) held fuel e)) with
        | none => rw [h1] at h; cases h
        | some xs =>
          rw [h1] at h
          rw [List.range_eq_range'] at h1
          obtain ⟨vs, t1, l1, s1, r1⟩ := elems_in (fun cs x hx => by obtain ⟨vs, a1, a2, _⟩ := ih e he cs x hx; exact ⟨vs, a1, a2⟩) len 0 xs h1
          rw [Nat.zero_mul, Nat.add_zero] at r1
          cases hcap : cap with
          | zero =>
            have : len = 0 := by omega
            subst this
            exact ⟨[.ze], .ze hu, by simp [vrl, vr], hz.symm⟩
          | succ c =>
            have hsp : a.spot = none := by
              rcases Nat.eq_zero_or_pos len with h0 | h0
              · subst h0
                simp only [Option.bind_some, if_true] at h
                cases h2 : ((List.range (cap - 0)).mapM fun j => (w.cells? base (a.add ((0 + j) * P.cellsOf e)) (P.cellsOf e)).bind (DataW.trod enc P w base (fun _ => true) held fuel e)) with
                | none => rw [h2] at h; cases h
                | some ys =>
                  simp only [Nat.zero_add, Nat.sub_zero] at h2
                  rw [List.range_eq_range'] at h2
                  obtain ⟨_, _, _, s2, _⟩ := elems_in (fun cs x hx => by obtain ⟨vs, a1, a2, _⟩ := ih e he cs x hx; exact ⟨vs, a1, a2⟩) cap 0 ys h2
                  rcases s2 with h4 | h4 | h4 | h4
                  · omega
                  · exact absurd rfl h4
                  · omega
                  · exact h4
              · rcases s1 with h4 | h4 | h4 | h4
                · omega
                · exact absurd rfl h4
                · omega
                · exact h4
            refine ⟨[.vs vs len (szOf P e) .lock], .vs hu (by omega) t1, ?_, hz.symm⟩
            simp only [vrl, vr]
            refine ⟨_, [], rfl, ⟨a.block, a.off, c + 1, ?_, by omega, l1, r1, trivial⟩, rfl⟩
            cases a
            simp only at hsp
            rw [hsp]
      · cases h
    · rename_i cs _ cs2 fs hu
      rw [hu] at hp
      simp only [Bool.and_eq_true, List.all_eq_true] at hp
      obtain ⟨hf, htl⟩ := hp
      split at h
      · rename_i hlen
        have hlen : cs.length = szOf P t := hlen
        cases h1 : (fs.toList.mapM fun f => DataW.trod enc P w base (fun _ => true) held fuel f.type ((cs.drop f.offset).take (P.cellsOf f.type))) with
        | none => rw [h1] at h; cases h
        | some xs =>
          rw [← hlen] at htl
          obtain ⟨vs, t1, r1, l1⟩ := fields_in ih fs.toList 0 xs (fun f hf' => by simpa using hf f hf') htl h1
          exact ⟨vs, .strct hu t1, by simpa using r1, by rw [l1, hlen]; omega⟩
      · cases h
    all_goals first
      | (rename_i hu _; rw [hu] at hp; cases hp; done)
      | (rename_i hu; rw [hu] at hp; cases hp; done)
      | cases h
      | skip
end
end Go.Ae
