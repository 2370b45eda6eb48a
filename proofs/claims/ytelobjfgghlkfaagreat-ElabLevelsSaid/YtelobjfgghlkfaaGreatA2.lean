/- The abstract evaluator. -/
import Derived.Test.YtelobjfgghlkfaaGreatA1
import Derived.CallsIn
import Derived.RangeFuncIn
import Derived.Laws.Cells
import Derived.Laws.CopyRow
set_option linter.all false
noncomputable section
namespace Go.Ae

variable (P : Program)

/-- A value that leaves a call whose blocks are dropped; the right to append to the first result goes along. n: the number of a new block. -/
def retok (n : Nat) (h1 : H) (v : V) : Option Eff :=
  match v with
  | .vs cs len sz (.tok r e) => match h1.get r with
    | .tok hw => if hw = e then some { v := .vs cs len sz (.tok n e), nw := [.tok e] } else some { v := .vs cs len sz .lock }
    | _ => some { v := .vs cs len sz .lock }
  | .tup (.vs cs len sz (.tok r e) :: vs) => match mapO (freeze h1 60) vs with
    | some vs => match h1.get r with
      | .tok hw => if hw = e then some { v := .tup (.vs cs len sz (.tok n e) :: vs), nw := [.tok e] } else some { v := .tup (.vs cs len sz .lock :: vs) }
      | _ => some { v := .tup (.vs cs len sz .lock :: vs) }
    | none => none
  | v => match freeze h1 60 v with
    | some v => some { v }
    | none => none

structure Known where
  /-- results of calls that are known otherwise -/
  call : FuncId → List V → Option V
  /-- deferred calls that do nothing where nothing panics -/
  idle : FuncId → Bool

/-- What a frame knows of itself: its function; the loop whose round it is. -/
structure Cx where
  fn : FuncId
  round : Option Nat

structure Ev where
  code : Cx → Code → St → Option (List (Ex × St))
  call : FuncId → List V → H → Option (List (R × H))

/-- Whatever has come, on with it. -/
def bindO {α β : Type} (f : α → Option (List β)) : List α → Option (List β)
  | [] => some []
  | [x] => f x
  | x :: xs => match f x, bindO f xs with
    | some a, some b => some (a ++ b)
    | _, _ => none

def allO {α β : Type} (f : α → Option β) : List α → Option (List β)
  | [] => some []
  | x :: xs => match f x, allO f xs with
    | some a, some b => some (a :: b)
    | _, _ => none

section
variable (hint : Hint) (known : Known) (E : Ev)

/-- How an operation deals with blocks: it looks at some, it changes some. -/
structure Foot where
  rd : List Nat
  wr : List Nat

def H.news (h : H) : List Blk → H
  | [] => h
  | b :: bs => H.news (h.new b) bs

def Eff.apply (e : Eff) (h : H) : H := (e.wr.foldl (fun h (p : Nat × Blk) => h.set p.1 p.2) h).news e.nw

def upFrom (n : Nat) : List Blk → List Nat
  | [] => []
  | _ :: bs => n :: upFrom (n + 1) bs

def Eff.foot (e : Eff) (nid : Nat) : Foot := ⟨e.rd, e.wr.map (·.1) ++ upFrom nid e.nw⟩

def setArgs : List V → Nat → T V → T V
  | [], _, t => t
  | v :: vs, i, t => setArgs vs (i + 1) (t.set i v)

def setAll : List Tmp → List V → T V → T V
  | t :: ts, v :: vs, r => setAll ts vs (r.set t v)
  | _, _, r => r

/-- A round's end (a round that panics is not taken in). -/
def endRoundE (l : Nat) (r : Ex × St) : Option (V × H) :=
  match r.2.dfs, r.2.h.get l with
  | [], .loop fn' regs' params' assign' body' _ .busy dfr' => match r.1 with
    | .normal => .some (.bool true, r.2.h.set l (.loop fn' regs' params' assign' body' none .ready dfr'))
    | .ret => .some (.bool false, r.2.h.set l (.loop fn' regs' params' assign' body' (.some .ret) .done dfr'))
    | .exit id => .some (.bool false, r.2.h.set l (.loop fn' regs' params' assign' body' (.some (.exit id)) .done dfr'))
    | .pan _ => none
  | _, _ => none

/-- A round: yield is called with args. -/
def roundE (h : H) (l : Nat) (args : List V) : Option (List (V × H)) :=
  match h.get l with
  | .loop fn regs params assign body _ .ready _ =>
    if args.length = params.length then
      match E.code { fn, round := .some l } assign { regs := setAll params args regs, dfs := [], h } with
      | .some [(.normal, s1)] => match s1.h.get l with
        | .loop fn' regs' params' assign' body' pend' .ready dfr' =>
          match E.code { fn, round := .some l } body { s1 with h := s1.h.set l (.loop fn' regs' params' assign' body' pend' .busy dfr') } with
          | .some outs => allO (endRoundE l) outs
          | none => none
        | _ => none
      | _ => none
    else none
  | _ => none

/-- What a call whose arguments refer to no block has come to. -/
def leaveE (f : FuncId) (n : Nat) (r : R × H) : Option Eff :=
  match r.1 with
  | .ret v => if hint.heap f then some { v := v.shift n, nw := blksOf r.2 n r.2.n 0 } else match retok n r.2 v with
    | .some e => some e
    | none => some { v := v.shift n, nw := blksOf r.2 n r.2.n 0 }
  | .pan v => match freeze r.2 60 v with
    | .some v => some { v, pan := true }
    | none => none

/-- A call whose arguments refer to no block. -/
def callP (f : FuncId) (args : List V) (n : Nat) : Option (List Eff) :=
  match known.call f args with
  | .some v => some [{ v }]
  | none => match E.call f args H.empty with
    | .some outs => match allO (leaveE hint f n) outs with
      | .some es => some (oneOf es)
      | none => none
    | none => none

def St.eff (s : St) (o : Oper) (e : Eff) : St := { s with regs := put s.regs o.dst e.v, h := e.apply s.h }
def St.res (s : St) (o : Oper) (r : V × H) : St := { s with regs := put s.regs o.dst r.1, h := r.2 }
/-- The same, where it may have panicked. -/
def St.effR (s : St) (o : Oper) (e : Eff) : Ex × St := cond e.pan (.pan e.v, { s with h := e.apply s.h }) (.normal, s.eff o e)
def St.resR (s : St) (o : Oper) (r : R × H) : Ex × St := match r.1 with
  | .ret v => (.normal, s.res o (v, r.2))
  | .pan v => (.pan v, { s with h := r.2 })

/-- One operation, laid open: what it may come to. -/
structure XO where
  run : Ev → Cx → St → Option (List (Ex × St))

def callO (E : Ev) (o : Oper) (s : St) (c : Option Callee1) : Option (List (Ex × St)) :=
  match c with
  | .some (.func f args) =>
    if V.pures (V.seals args) then
      match callP hint known E f (V.seals args) s.h.n with
      | .some [e] => some [s.effR o e]
      | .some es => some (es.map (s.effR o))
      | none => none
    else match E.call f args s.h with
      | .some outs => some (outs.map (s.resR o))
      | none => none
  | .some (.round l args) => match roundE E s.h l args with
    | .some outs => some (outs.map fun r => (.normal, s.res o r))
    | none => none
  | none => none

def op1 (fn : FuncId) (o : Oper) : XO :=
  match o.op with
  | .call c => match c.callee with
    | .builtin _ => ⟨fun _ _ s => match (exec P (hint.rows fn o.dst) o.op).run s.regs s.h.get s.h.n with
      | .some e => some [(.normal, s.eff o e)]
      | none => none⟩
    | _ => ⟨fun E _ s => callO hint known E o s ((calleeX P c).run s.regs)⟩
  | .next x false => ⟨fun _ _ s => match rd s.regs x with
    | .some x => match nextV s.h.get x with
      | .some es => some (es.map fun e => (.normal, s.eff o e))
      | none => none
    | none => none⟩
  | .panic x => ⟨fun _ _ s => match rd s.regs x with
    | .some (.iface t v) => some [(.pan (.iface t v), s)]
    | _ => none⟩
  | .defer c => ⟨fun _ cx s => match cx.round, deferV s.regs c with
    | none, .some d => some [(.normal, { s with regs := put s.regs o.dst undefV, dfs := d :: s.dfs })]
    | _, _ => none⟩
  | _ => ⟨fun _ _ s => match (exec P (hint.rows fn o.dst) o.op).run s.regs s.h.get s.h.n with
    | .some e => some [(.normal, s.eff o e)]
    | none => none⟩

/-- The same where the order is drawn: it is told which blocks it can look at and change. -/
structure XD where
  run : Ev → T V → (Nat → Blk) → Nat → Option Eff

/-- A map is one that was there. -/
def kindOk (a b : Blk) : Bool := match a with
  | .map _ _ => (match b with | .map _ _ => true | _ => false)
  | _ => true

def callD (E : Ev) (get : Nat → Blk) (n : Nat) (c : Option Callee1) : Option Eff :=
  match c with
  | .some (.func f args) =>
    if V.pures (V.seals args) then
      match callP hint known E f (V.seals args) n with
      | .some [e] => if e.pan then none else some e
      | _ => none
    else match reach get 1000 (V.idss args) [] with
      | .some rs => if rs.all (fun r => Nat.blt r n) && Nat.blt n (2 ^ 20) then
          match E.call f args (H.only get n rs) with
          | .some [(.ret v, h1)] => if Nat.ble n h1.n && h1.dirty.all (fun r => Nat.ble n r || rs.contains r) && rs.all (fun r => kindOk (h1.get r) (get r)) then some { v, rd := rs, wr := (rs.filter h1.dirty.contains).map fun r => (r, h1.get r), nw := h1.from (h1.n - n) n } else none
          | _ => none
        else none
      | none => none
  | _ => none

def opD (fn : FuncId) (o : Oper) : XD :=
  match o.op with
  | .call c => match c.callee with
    | .builtin _ => ⟨fun _ regs get n => (exec P (hint.rows fn o.dst) o.op).run regs get n⟩
    | _ => ⟨fun E regs get n => callD hint known E get n ((calleeX P c).run regs)⟩
  | _ => ⟨fun _ regs get n => (exec P (hint.rows fn o.dst) o.op).run regs get n⟩

/-- The operations of a region in the order of the text. -/
def opsV (fn : FuncId) (all : Array Oper) : List Oper → XO
  | [] => ⟨fun _ _ s => some [(.normal, s)]⟩
  | o :: os => ⟨fun E cx s => if (wantX all o).run s.regs then
      match (op1 P hint known fn o).run E cx s with
      | some [(.normal, s)] => (opsV fn all os).run E cx s
      | some rs => bindO (fun r => match r.1 with
        | .normal => (opsV fn all os).run E cx r.2
        | _ => some [r]) rs
      | none => none
    else (opsV fn all os).run E cx { s with regs := put s.regs o.dst undefV }⟩

def apart (a b : List Nat) : Bool := a.all fun x => !b.contains x

/-- Two that do not meddle with each other. -/
def Foot.apart (a b : Foot) : Bool := Ae.apart a.wr b.wr && Ae.apart a.wr b.rd && Ae.apart a.rd b.wr

structure XR where
  run : Ev → List (Nat × Foot) → St → Option St

/-- The operations of a region whose order is drawn, in the order of the text: what does not stand apart has its order by the edges. done: what has been. -/
def opsD (fn : FuncId) (all : Array Oper) (bef : List Nat) : List (Oper × Nat) → XR
  | [] => ⟨fun _ _ s => some s⟩
  | (o, i) :: os => ⟨fun E done s => if (wantX all o).run s.regs then
      match (opD P hint known fn o).run E s.regs s.h.get s.h.n with
      | some e => match e with
        | ⟨v, [], [], [], false⟩ => (opsD fn all bef os).run E done { s with regs := put s.regs o.dst v }
        | e => if done.all (fun (j, f') => (bef.getD i 0).testBit j || (e.foot s.h.n).apart f') then (opsD fn all bef os).run E ((i, e.foot s.h.n) :: done) (s.eff o e) else none
      | none => none
    else (opsD fn all bef os).run E done { s with regs := put s.regs o.dst undefV }⟩

/-- What an operation names. -/
def namesOf (ops : Array Oper) (o : Oper) : List Tmp :=
  o.dst.toList ++ (o.op.operands.toList.filterMap fun | .tmp t => some t | _ => none) ++
  (match o.guard with
   | some (g, _) => ((ops[g]?).bind (·.dst)).toList
   | none => [])

/-- There is an order by the edges of one compiler. -/
def gcOk (ops : Array Oper) : Bool :=
  let p := Region.linearise .gc ops 0
  ops.toList.zipIdx.all fun (o, j) => o.after.toList.all fun e => !Region.binds .gc e || (Nat.blt e.on ops.size && Nat.blt (p.idxOf e.on) (p.idxOf j))

/-- The edges that bind lead back; whoever writes what another names has its order by the edges. -/
def regOk (ops : Array Oper) : Bool :=
  let b := (Region.before ops).toList
  let l := ops.toList.zipIdx
  (l.all fun (o, j) => o.after.toList.all fun e => !Region.binds .text e || Nat.blt e.on j) && (!Region.departs ops || gcOk ops) &&
  l.all fun (o, j) => (namesOf ops o).all fun t => l.all fun (p, i) => p.dst != some t || i == j || (b.getD (max i j) 0).testBit (min i j)

def resultV (s : St) : ResultVar → Option V
  | .tmp t => some (s.regs.get undefV t)
  | .cell a t => match s.regs.get undefV a with
    | .ptr r off => match s.h.get r with
      | .row _ cs => if off ≤ cs.length then loadV P t (cs.drop off) else none
      | _ => none
    | _ => none

def resultVs (s : St) : List ResultVar → Option (List V)
  | [] => some []
  | r :: rs => match resultV P s r, resultVs s rs with
    | some v, some vs => some (v :: vs)
    | _, _ => none

def resultsV (fn : Func) (s : St) : Option V :=
  match resultVs P s fn.results.toList with
  | some [v] => some v
  | some vs => some (.tup vs)
  | none => none

/-- A deferred call of the form 'x := recover(); ..': what is panicking (m), before and behind it. -/
def deferE (E : Ev) (f : FuncId) (xs : List V) (m : Option V) (h : H) : Option (Option V × H) :=
  match P.funcs[f]? with
  | .some fn => match fn.body with
    | .some (.seq (.region _ ops false) rest) => match ops.toList with
      | [o1, o2] => match o1.op, o2.op, o1.dst, o2.dst with
        | .call c, .assign (.tmp b), .some d1, .some d2 =>
          if (match c.callee with | .builtin .recover => true | _ => false) && Nat.beq b d1 && o1.guard.isNone && o2.guard.isNone && Nat.beq fn.results.size 0 && Nat.ble xs.length fn.ntmps && Nat.blt fn.ntmps 1048576 && Nat.blt d1 fn.ntmps then
            let v := m.getD .nilif
            match E.code { fn := f, round := none } rest { regs := ((setArgs xs 0 (T.fill undefV 20 fn.ntmps)).set d1 v).set d2 v, dfs := [], h } with
            | .some [(.normal, s)] => (match s.dfs with | [] => .some (none, s.h) | _ => none)
            | .some [(.ret, s)] => (match s.dfs with | [] => .some (none, s.h) | _ => none)
            | _ => none
          else none
        | _, _, _, _ => none
      | _ => none
    | _ => none
  | none => none

/-- The deferred calls at a return, or at a panic (m). -/
def unwindE (E : Ev) : List D → Option V → H → Option (Option V × H)
  | [], m, h => some (m, h)
  | .mark r :: ds, m, h => match h.get r with
    | .dfr => unwindE E ds m (h.set r .gone)
    | _ => none
  | .call f cap args :: ds, m, h => if m.isNone && known.idle f then unwindE E ds m h else match deferE P E f (args ++ cap) m h with
    | .some (m, h) => unwindE E ds m h
    | none => none

def fixS (cx : Cx) (id : Nat) (s : St) : Option (Ex × St) :=
  match hint.fix cx.fn id with
  | [] => some (.normal, s)
  | ts => match fixAll s.regs ts s.h with
    | some h => some (.normal, { s with h })
    | none => none

/-- A range over a function behind the call. -/
def rangeE (cx : Cx) (s : St) (dfs : List D) (l : Nat) (r : R × H) : Option (List (Ex × St)) :=
  match r.1 with
  | .pan v => some [(.pan v, { s with dfs, h := r.2 })]
  | .ret _ => match r.2.get l with
  | .loop fn' regs' params' assign' body' pend st d' =>
    if st = .busy then none else
    let s := { s with dfs, h := r.2.set l (.loop fn' regs' params' assign' body' pend .exhausted d') }
    match pend with
    | none => some [(.normal, s)]
    | some c => E.code cx c s
  | _ => none

def endE (E : Ev) (fn : Func) (r : Ex × St) : Option (R × H) :=
  match r.1 with
  | .exit _ => none
  | e => match unwindE P known E r.2.dfs (match e with | .pan v => .some v | _ => none) r.2.h with
    | some (none, h) => match resultsV P fn { r.2 with h } with
      | some v => some (.ret v, h)
      | none => none
    | some (.some v, h) => some (.pan v, h)
    | none => none

/-- Code, laid open. -/
structure XK where
  run : Ev → Cx → St → Option (List (Ex × St))

/-- The deferred calls' block, the marks, the heap at a range over a function. -/
def rangeAt (cx : Cx) (s : St) : Option (Nat × List D × H) :=
  match cx.round with
  | some l => match s.h.get l with
    | .loop _ _ _ _ _ _ _ d => some (d, s.dfs, s.h)
    | _ => none
  | none => some (s.h.n, .mark s.h.n :: s.dfs, s.h.new .dfr)

def seqE (E : Ev) (cx : Cx) (b : Code) (r : Option (List (Ex × St))) : Option (List (Ex × St)) :=
  match r with
  | some [(.normal, s)] => E.code cx b s
  | some outs => bindO (fun r => match r.1 with
    | .normal => E.code cx b r.2
    | _ => some [r]) outs
  | none => none

def codeX (fn : FuncId) (c : Code) : XK :=
  match c with
  | .skip => ⟨fun _ _ s => some [(.normal, s)]⟩
  | .label _ => ⟨fun _ _ s => some [(.normal, s)]⟩
  | .region id os draw =>
    if draw then (if regOk os then ⟨fun E cx s => match (opsD P hint known fn os (Region.before os).toList os.toList.zipIdx).run E [] s with
        | some s => match fixS hint cx id s with
          | some r => some [r]
          | none => none
        | none => none⟩
      else ⟨fun _ _ _ => none⟩)
    else ⟨fun E cx s => match (opsV P hint known fn os os.toList).run E cx s with
      | some rs => allO (fun r => match r.1 with
        | .normal => fixS hint cx id r.2
        | _ => some r) rs
      | none => none⟩
  | .seq a b => ⟨fun E cx s => seqE E cx b (E.code cx a s)⟩
  | .cond c a b => ⟨fun E cx s => match rd s.regs c with
    | some (.bool true) => E.code cx a s
    | some (.bool false) => E.code cx b s
    | _ => none⟩
  | .block id b => ⟨fun E cx s => match E.code cx b s with
    | some outs => some (outs.map fun r => match r.1 with
      | .exit i => (if i = id then .normal else .exit i, r.2)
      | _ => r)
    | none => none⟩
  | .loop b => ⟨fun E cx s => seqE E cx (.loop b) (E.code cx b s)⟩
  | .scope b => ⟨fun E cx s => E.code cx b s⟩
  | .exit id => ⟨fun _ _ s => some [(.exit id, s)]⟩
  | .ret => ⟨fun _ _ s => some [(.ret, s)]⟩
  | .rangeFunc f params assign body => ⟨fun E cx s => match rangeAt cx s, rd s.regs f with
    | some (d, dfs, h), some (.fn (.func g) first cap) =>
      match E.call g (first ++ [.fn (.yield h.n) [] []] ++ cap) (h.new (.loop cx.fn s.regs params.toList assign body none .ready d)) with
      | some outs => bindO (rangeE E cx s dfs h.n) outs
      | none => none
    | _, _ => none⟩
  | _ => ⟨fun _ _ _ => none⟩

/-- A function, laid open. -/
structure XF where
  run : Ev → List V → H → Option (List (R × H))

def funcX (f : FuncId) : XF :=
  match P.funcs[f]? with
  | none => ⟨fun _ _ _ => none⟩
  | some fn => match fn.body with
    | none => ⟨fun _ _ _ => none⟩
    | some c => ⟨fun E args h =>
      if Nat.ble args.length fn.ntmps && Nat.blt fn.ntmps 1048576 then
        match E.code { fn := f, round := none } c { regs := setArgs args 0 (T.fill undefV 20 fn.ntmps), dfs := [], h } with
        | some outs => allO (endE P known E fn) outs
        | none => none
      else none⟩

def stepE (E : Ev) : Ev where
  code cx c s := (codeX P hint known cx.fn c).run E cx s
  call f args h := (funcX P known f).run E args h

def ev0 : Ev where
  code _ _ _ := none
  call _ _ _ := none

end

def ev (hint : Hint) (known : Known) (n : Nat) : Ev := Nat.rec ev0 (fun _ E => stepE P hint known E) n

end Go.Ae

/- The abstract evaluator: what its values, blocks and temporaries say of the machine's. -/
namespace Go.Ae

/-! ### Trees -/
section
variable {α : Type} (d : α)

theorem T.get_lf (k : Nat) : (T.lf : T α).get d k = d := rfl
theorem T.get_nd0 (x : α) (l r : T α) : (T.nd x l r).get d 0 = x := rfl
theorem T.get_ndS (x : α) (l r : T α) (k : Nat) : (T.nd x l r).get d (k + 1) = if k % 2 = 0 then l.get d (k / 2) else r.get d (k / 2) := by
  show cond (Nat.beq (k % 2) 0) (l.get d (k / 2)) (r.get d (k / 2)) = _
  by_cases h : k % 2 = 0
  · rw [if_pos h, h]; rfl
  · rw [if_neg h]
    have : Nat.beq (k % 2) 0 = false := by
      cases hb : Nat.beq (k % 2) 0 with
      | false => rfl
      | true => exact absurd (Nat.eq_of_beq_eq_true hb) h
    rw [this]; rfl

theorem T.set_lf (k : Nat) (v : α) : (T.lf : T α).set k v = .lf := rfl
theorem T.set_nd0 (x : α) (l r : T α) (v : α) : (T.nd x l r).set 0 v = .nd v l r := rfl
theorem T.set_ndS (x : α) (l r : T α) (k : Nat) (v : α) : (T.nd x l r).set (k + 1) v = if k % 2 = 0 then .nd x (l.set (k / 2) v) r else .nd x l (r.set (k / 2) v) := by
  show cond (Nat.beq (k % 2) 0) (T.nd x (l.set (k / 2) v) r) (T.nd x l (r.set (k / 2) v)) = _
  by_cases h : k % 2 = 0
  · rw [if_pos h, h]; rfl
  · rw [if_neg h]
    have : Nat.beq (k % 2) 0 = false := by
      cases hb : Nat.beq (k % 2) 0 with
      | false => rfl
      | true => exact absurd (Nat.eq_of_beq_eq_true hb) h
    rw [this]; rfl

theorem T.push_lf (k : Nat) (v : α) : (T.lf : T α).push k v = .nd v .lf .lf := rfl
theorem T.push_ndS (x : α) (l r : T α) (k : Nat) (v : α) : (T.nd x l r).push (k + 1) v = if k % 2 = 0 then .nd x (l.push (k / 2) v) r else .nd x l (r.push (k / 2) v) := by
  show cond (Nat.beq (k % 2) 0) (T.nd x (l.push (k / 2) v) r) (T.nd x l (r.push (k / 2) v)) = _
  by_cases h : k % 2 = 0
  · rw [if_pos h, h]; rfl
  · rw [if_neg h]
    have : Nat.beq (k % 2) 0 = false := by
      cases hb : Nat.beq (k % 2) 0 with
      | false => rfl
      | true => exact absurd (Nat.eq_of_beq_eq_true hb) h
    rw [this]; rfl

/-- The numbers of a tree. -/
def T.has : T α → Nat → Prop
  | .lf, _ => False
  | .nd _ l r, k => k = 0 ∨ ∃ j, k = j + 1 ∧ ((j % 2 = 0 ∧ l.has (j / 2)) ∨ (j % 2 ≠ 0 ∧ r.has (j / 2)))

open Classical in
theorem T.get_set (t : T α) : ∀ (k : Nat) (v : α) (j : Nat), (t.set k v).get d j = if j = k ∧ t.has k then v else t.get d j := by
  induction t with
  | lf => intro k v j; simp [T.set_lf, T.has]
  | nd x l r ihl ihr =>
    intro k v j
    cases k with
    | zero =>
      rw [T.set_nd0]
      cases j with
      | zero => simp [T.get_nd0, T.has]
      | succ j => simp [T.get_ndS]
    | succ k =>
      rw [T.set_ndS]
      cases j with
      | zero => split <;> simp [T.get_nd0]
      | succ j =>
        by_cases hk : k % 2 = 0
        · rw [if_pos hk, T.get_ndS, T.get_ndS]
          by_cases hj : j % 2 = 0
          · rw [if_pos hj, if_pos hj, ihl]
            by_cases hjk : j = k
            · subst hjk
              simp only [true_and, T.has]
              by_cases hh : l.has (j / 2)
              · rw [if_pos hh, if_pos (Or.inr ⟨j, rfl, .inl ⟨hj, hh⟩⟩)]
              · rw [if_neg hh, if_neg]
                rintro (h | ⟨j', h, h' | h'⟩)
                · omega
                · obtain rfl : j = j' := by omega
                  exact hh h'.2
                · obtain rfl : j = j' := by omega
                  exact h'.1 hj
            · have : j / 2 ≠ k / 2 := by omega
              rw [if_neg (fun h => this h.1), if_neg (fun h => hjk (by omega))]
          · rw [if_neg hj, if_neg hj, if_neg]
            rintro ⟨h, _⟩
            exact hj (by omega)
        · rw [if_neg hk, T.get_ndS, T.get_ndS]
          by_cases hj : j % 2 = 0
          · rw [if_pos hj, if_pos hj, if_neg]
            rintro ⟨h, _⟩
            exact hk (by omega)
          · rw [if_neg hj, if_neg hj, ihr]
            by_cases hjk : j = k
            · subst hjk
              simp only [true_and, T.has]
              by_cases hh : r.has (j / 2)
              · rw [if_pos hh, if_pos (Or.inr ⟨j, rfl, .inr ⟨hj, hh⟩⟩)]
              · rw [if_neg hh, if_neg]
                rintro (h | ⟨j', h, h' | h'⟩)
                · omega
                · obtain rfl : j = j' := by omega
                  exact hj h'.1
                · obtain rfl : j = j' := by omega
                  exact hh h'.2
            · have : j / 2 ≠ k / 2 := by omega
              rw [if_neg (fun h => this h.1), if_neg (fun h => hjk (by omega))]

theorem T.has_nd (x : α) (l r : T α) (k : Nat) : (T.nd x l r).has (k + 1) ↔ if k % 2 = 0 then l.has (k / 2) else r.has (k / 2) := by
  simp only [T.has]
  constructor
  · rintro (h | ⟨j, h, h' | h'⟩)
    · omega
    · obtain rfl : k = j := by omega
      rw [if_pos h'.1]; exact h'.2
    · obtain rfl : k = j := by omega
      rw [if_neg h'.1]; exact h'.2
  · intro h
    by_cases hk : k % 2 = 0
    · rw [if_pos hk] at h; exact .inr ⟨k, rfl, .inl ⟨hk, h⟩⟩
    · rw [if_neg hk] at h; exact .inr ⟨k, rfl, .inr ⟨hk, h⟩⟩

theorem T.has_set (t : T α) : ∀ (k : Nat) (v : α) (j : Nat), (t.set k v).has j ↔ t.has j := by
  induction t with
  | lf => intro k v j; rfl
  | nd x l r ihl ihr =>
    intro k v j
    cases k with
    | zero => rw [T.set_nd0]; simp [T.has]
    | succ k =>
      rw [T.set_ndS]
      cases j with
      | zero => split <;> simp [T.has]
      | succ j =>
        split
        · rw [T.has_nd, T.has_nd]; split
          · exact ihl _ _ _
          · rfl
        · rw [T.has_nd, T.has_nd]; split
          · rfl
          · exact ihr _ _ _

/-- A tree with the numbers below n. -/
def T.full (t : T α) (n : Nat) : Prop := ∀ k, t.has k ↔ k < n

theorem T.full_sub {x : α} {l r : T α} {n : Nat} (h : (T.nd x l r).full (n + 1)) : l.full ((n + 1) / 2) ∧ r.full (n / 2) := by
  constructor <;> intro k
  · have := h (2 * k + 1)
    rw [T.has_nd, if_pos (by omega), show (2 * k) / 2 = k by omega] at this
    rw [this]; omega
  · have := h (2 * k + 1 + 1)
    rw [T.has_nd, if_neg (by omega), show (2 * k + 1) / 2 = k by omega] at this
    rw [this]; omega

theorem T.has_push (t : T α) : ∀ (n : Nat) (v : α), t.full n → (t.push n v).full (n + 1) := by
  induction t with
  | lf =>
    intro n v h k
    have hn : n = 0 := by
      cases n with
      | zero => rfl
      | succ n => have := (h 0).2 (by omega); exact this.elim
    subst hn
    rw [T.push_lf]
    cases k with
    | zero => simp [T.has]
    | succ k => rw [T.has_nd]; split <;> simp [T.has]
  | nd x l r ihl ihr =>
    intro n v h k
    cases n with
    | zero => have := (h 0).1 (.inl rfl); omega
    | succ n =>
      obtain ⟨hl, hr⟩ := T.full_sub h
      rw [T.push_ndS]
      by_cases hn : n % 2 = 0
      · rw [if_pos hn]
        have e1 : (n + 1) / 2 = n / 2 := by omega
        rw [e1] at hl
        have := ihl (n / 2) v hl
        cases k with
        | zero => simp [T.has]
        | succ k =>
          rw [T.has_nd]
          split
          · rw [this (k / 2)]; omega
          · rw [hr (k / 2)]; omega
      · rw [if_neg hn]
        have := ihr (n / 2) v hr
        cases k with
        | zero => simp [T.has]
        | succ k =>
          rw [T.has_nd]
          split
          · rw [hl (k / 2)]; omega
          · rw [this (k / 2)]; omega

theorem T.get_push (t : T α) : ∀ (n : Nat) (v : α), t.full n → ∀ j, (t.push n v).get d j = if j = n then v else t.get d j := by
  induction t with
  | lf =>
    intro n v h j
    have hn : n = 0 := by
      cases n with
      | zero => rfl
      | succ n => have := (h 0).2 (by omega); exact this.elim
    subst hn
    rw [T.push_lf]
    cases j with
    | zero => rfl
    | succ j => rw [T.get_ndS]; simp [T.get_lf]
  | nd x l r ihl ihr =>
    intro n v h j
    cases n with
    | zero => have := (h 0).1 (.inl rfl); omega
    | succ n =>
      obtain ⟨hl, hr⟩ := T.full_sub h
      rw [T.push_ndS]
      by_cases hn : n % 2 = 0
      · rw [if_pos hn]
        have e1 : (n + 1) / 2 = n / 2 := by omega
        rw [e1] at hl
        cases j with
        | zero => rfl
        | succ j =>
          rw [T.get_ndS, T.get_ndS]
          by_cases hj : j % 2 = 0
          · rw [if_pos hj, if_pos hj, ihl _ _ hl]
            by_cases e : j = n
            · rw [if_pos (by omega), if_pos (by omega)]
            · rw [if_neg (by omega), if_neg (by omega)]
          · rw [if_neg hj, if_neg hj, if_neg (by omega)]
      · rw [if_neg hn]
        cases j with
        | zero => rfl
        | succ j =>
          rw [T.get_ndS, T.get_ndS]
          by_cases hj : j % 2 = 0
          · rw [if_pos hj, if_pos hj, if_neg (by omega)]
          · rw [if_neg hj, if_neg hj, ihr _ _ hr]
            by_cases e : j = n
            · rw [if_pos (by omega), if_pos (by omega)]
            · rw [if_neg (by omega), if_neg (by omega)]

theorem T.get_out (t : T α) : ∀ k, ¬ t.has k → t.get d k = d := by
  induction t with
  | lf => intro k _; rfl
  | nd x l r ihl ihr =>
    intro k h
    cases k with
    | zero => exact absurd (.inl rfl) h
    | succ k =>
      rw [T.has_nd] at h
      rw [T.get_ndS]
      by_cases hk : k % 2 = 0
      · rw [if_pos hk] at h ⊢; exact ihl _ h
      · rw [if_neg hk] at h ⊢; exact ihr _ h

theorem T.get_fill (f : Nat) : ∀ n k, (T.fill d f n).get d k = d := by
  induction f with
  | zero => intro n k; rfl
  | succ f ih =>
    intro n k
    cases n with
    | zero => rfl
    | succ n =>
      show (T.nd d (T.fill d f ((n + 1) / 2)) (T.fill d f (n / 2))).get d k = d
      cases k with
      | zero => rfl
      | succ k => rw [T.get_ndS]; split <;> exact ih _ _

theorem T.full_fill (f : Nat) : ∀ n, n < 2 ^ f → (T.fill d f n).full n := by
  induction f with
  | zero => intro n h k; simp [T.fill, T.has]; omega
  | succ f ih =>
    intro n h
    cases n with
    | zero => intro k; simp [T.fill, T.has]
    | succ n =>
      intro k
      show (T.nd d (T.fill d f ((n + 1) / 2)) (T.fill d f (n / 2))).has k ↔ _
      have hp : 2 ^ (f + 1) = 2 * 2 ^ f := by rw [Nat.pow_succ]; omega
      cases k with
      | zero => simp [T.has]
      | succ k =>
        rw [T.has_nd]
        split
        · rw [ih _ (by omega) (k / 2)]; omega
        · rw [ih _ (by omega) (k / 2)]; omega

theorem T.full_set {t : T α} {n : Nat} (h : t.full n) (k : Nat) (v : α) : (t.set k v).full n := fun j => (T.has_set t k v j).trans (h j)
theorem T.get_set_full {t : T α} {n : Nat} (h : t.full n) (k : Nat) (v : α) (j : Nat) : (t.set k v).get d j = if j = k ∧ k < n then v else t.get d j := by
  rw [T.get_set]
  by_cases hc : j = k ∧ k < n
  · rw [if_pos hc, if_pos ⟨hc.1, (h k).2 hc.2⟩]
  · rw [if_neg hc, if_neg (fun hh => hc ⟨hh.1, (h k).1 hh.2⟩)]
end

/-! ### Heaps -/
/-- A heap's blocks are the numbers below n. -/
def H.wf (h : H) : Prop := h.t.full h.n
theorem H.get_set {h : H} (hw : h.wf) (r : Nat) (b : Blk) (j : Nat) : (h.set r b).get j = if j = r ∧ r < h.n then b else h.get j := T.get_set_full _ hw r b j
theorem H.wf_set {h : H} (hw : h.wf) (r : Nat) (b : Blk) : (h.set r b).wf := T.full_set hw r b
theorem H.get_new {h : H} (hw : h.wf) (b : Blk) (j : Nat) : (h.new b).get j = if j = h.n then b else h.get j := T.get_push _ _ _ _ hw j
theorem H.wf_new {h : H} (hw : h.wf) (b : Blk) : (h.new b).wf := T.has_push _ _ _ hw
theorem H.wf_empty : H.empty.wf := fun k => by simp [H.empty, T.has]
theorem H.get_out {h : H} (hw : h.wf) (r : Nat) (hr : h.n ≤ r) : h.get r = .gone := T.get_out _ _ r (fun hh => by have := (hw r).1 hh; omega)

end Go.Ae

/- The abstract evaluator: what its values say of the machine's. -/
namespace Go.Ae

/-- What references to blocks say. -/
structure At where
  ptr : Nat → Nat → Addr → Prop
  hs : Nat → Nat → Nat → Nat → Nat → Bool → Addr → Nat → Prop
  map : Nat → Nat → Prop
  yld : Nat → Nat → Prop
  tok : Nat → Nat → Nat → Nat → Nat → Prop

/-- There are none. -/
def At.bot : At := ⟨fun _ _ _ => False, fun _ _ _ _ _ _ _ _ => False, fun _ _ => False, fun _ _ => False, fun _ _ _ _ _ => False⟩

structure At.le (A A' : At) : Prop where
  ptr : ∀ r o x, A.ptr r o x → A'.ptr r o x
  hs : ∀ r o l c s e x n, A.hs r o l c s e x n → A'.hs r o l c s e x n
  map : ∀ r x, A.map r x → A'.map r x
  yld : ∀ r l, A.yld r l → A'.yld r l
  tok : ∀ r e b k c, A.tok r e b k c → A'.tok r e b k c

theorem At.le_refl (A : At) : A.le A := ⟨fun _ _ _ h => h, fun _ _ _ _ _ _ _ _ h => h, fun _ _ h => h, fun _ _ h => h, fun _ _ _ _ _ h => h⟩
theorem At.le_trans {A B C : At} (h : A.le B) (h' : B.le C) : A.le C :=
  ⟨fun _ _ _ x => h'.ptr _ _ _ (h.ptr _ _ _ x), fun _ _ _ _ _ _ _ _ x => h'.hs _ _ _ _ _ _ _ _ (h.hs _ _ _ _ _ _ _ _ x), fun _ _ x => h'.map _ _ (h.map _ _ x), fun _ _ x => h'.yld _ _ (h.yld _ _ x), fun _ _ _ _ _ x => h'.tok _ _ _ _ _ (h.tok _ _ _ _ _ x)⟩
theorem At.bot_le (A : At) : At.bot.le A := ⟨fun _ _ _ h => h.elim, fun _ _ _ _ _ _ _ _ h => h.elim, fun _ _ h => h.elim, fun _ _ h => h.elim, fun _ _ _ _ _ h => h.elim⟩

/-- Cells that no longer change. -/
abbrev Imm := Nat → Nat → Option Value

def Imm.le (I J : Imm) : Prop := ∀ b o x, I b o = some x → J b o = some x
theorem Imm.le_refl (I : Imm) : I.le I := fun _ _ _ h => h
theorem Imm.le_trans {I J K : Imm} (h : I.le J) (h' : J.le K) : I.le K := fun _ _ _ x => h' _ _ _ (h _ _ _ x)

def ownR (A : At) : Own → Nat → Nat → Nat → Nat → Nat → Prop
  | .tight, _, len, cap, _, _ => cap = len
  | .lock, _, _, _, _, _ => True
  | .tok r e, b, _, _, k, c => A.tok r e b k c

def fnR (A : At) : Fn → Fn → Prop
  | .yield r, .yield l => A.yld r l
  | .yield _, _ => False
  | f, f' => f' = f

mutual
/-- A value, and the machine's. -/
def vr (I : Imm) (A : At) : V → Value → Prop
  | .bool b, x => x = .bool b
  | .int k n, x => x = .int k n
  | .str s, x => x = .string s
  | .nilp, x => x = .pointer none
  | .ptr r o, x => ∃ a, x = .pointer (some a) ∧ A.ptr r o a
  | .iptr cs, x => ∃ b o, x = .pointer (some ⟨b, o, none⟩) ∧ vra I b o cs
  | .nils, x => x = .slice none 0 0
  | .ze, x => ∃ a, x = .slice (some a) 0 0
  | .vs cs len sz own, x => ∃ b o cap, x = .slice (some ⟨b, o, none⟩) len cap ∧ len ≤ cap ∧ cs.length = len * sz ∧ vra I b o cs ∧ ownR A own b len cap (o + len * sz) (o + cap * sz)
  | .hs r o l c s e, x => ∃ a n, x = .slice (some a) l n ∧ A.hs r o l c s e a n
  | .nilm, x => x = .map none
  | .map r, x => ∃ b, x = .map (some b) ∧ A.map r b
  | .fn f a c, x => ∃ f' a' c', x = .func f' a' c' ∧ fnR A f f' ∧ vrl I A a a'.toList ∧ vrl I A c c'.toList
  | .nilf, x => x = .nilFunc
  | .iface t v, x => ∃ y, x = .iface t y ∧ vr I A v y
  | .nilif, x => x = .nilIface
  | .agg cs, x => ∃ ys, x = .agg ys ∧ vrl I A cs ys.toList
  | .tup cs, x => ∃ ys, x = .tuple ys ∧ vrl I A cs ys.toList
def vrl (I : Imm) (A : At) : List V → List Value → Prop
  | [], ys => ys = []
  | v :: vs, ys => ∃ x xs, ys = x :: xs ∧ vr I A v x ∧ vrl I A vs xs
/-- Cells from an address on that no longer change. -/
def vra (I : Imm) : Nat → Nat → List V → Prop
  | _, _, [] => True
  | b, o, v :: vs => (∃ x, I b o = some x ∧ vr I At.bot v x) ∧ vra I b (o + 1) vs
end

theorem ownR_mono {A A' : At} (hA : A.le A') {own : Own} {b l c k e : Nat} (h : ownR A own b l c k e) : ownR A' own b l c k e := by
  cases own with
  | tight => exact h
  | lock => trivial
  | tok r e => exact hA.tok _ _ _ _ _ h

theorem fnR_mono {A A' : At} (hA : A.le A') {f f' : Fn} (h : fnR A f f') : fnR A' f f' := by
  cases f <;> cases f' <;> first | exact h | exact hA.yld _ _ h

mutual
theorem vr_mono {I J : Imm} (hI : I.le J) {A A' : At} (hA : A.le A') : ∀ {v : V} {x : Value}, vr I A v x → vr J A' v x
  | .bool _, _, h => by simpa [vr] using h
  | .int _ _, _, h => by simpa [vr] using h
  | .str _, _, h => by simpa [vr] using h
  | .nilp, _, h => by simpa [vr] using h
  | .ptr _ _, _, h => by simp only [vr] at h ⊢; obtain ⟨a, e, h⟩ := h; exact ⟨a, e, hA.ptr _ _ _ h⟩
  | .iptr _, _, h => by
    simp only [vr] at h ⊢
    obtain ⟨b, o, e, h⟩ := h
    exact ⟨b, o, e, vra_mono hI h⟩
  | .nils, _, h => by simpa [vr] using h
  | .ze, _, h => by simpa [vr] using h
  | .vs _ _ _ _, _, h => by
    simp only [vr] at h ⊢
    obtain ⟨b, o, cap, e, h1, h2, h3, h4⟩ := h
    exact ⟨b, o, cap, e, h1, h2, vra_mono hI h3, ownR_mono hA h4⟩
  | .hs _ _ _ _ _ _, _, h => by simp only [vr] at h ⊢; obtain ⟨a, n, e, h⟩ := h; exact ⟨a, n, e, hA.hs _ _ _ _ _ _ _ _ h⟩
  | .nilm, _, h => by simpa [vr] using h
  | .map _, _, h => by simp only [vr] at h ⊢; obtain ⟨a, e, h⟩ := h; exact ⟨a, e, hA.map _ _ h⟩
  | .fn _ _ _, _, h => by
    simp only [vr] at h ⊢
    obtain ⟨f', a', c', e, h1, h2, h3⟩ := h
    exact ⟨f', a', c', e, fnR_mono hA h1, vrl_mono hI hA h2, vrl_mono hI hA h3⟩
  | .nilf, _, h => by simpa [vr] using h
  | .iface _ _, _, h => by
    simp only [vr] at h ⊢
    obtain ⟨y, e, h⟩ := h
    exact ⟨y, e, vr_mono hI hA h⟩
  | .nilif, _, h => by simpa [vr] using h
  | .agg _, _, h => by
    simp only [vr] at h ⊢
    obtain ⟨y, e, h⟩ := h
    exact ⟨y, e, vrl_mono hI hA h⟩
  | .tup _, _, h => by
    simp only [vr] at h ⊢
    obtain ⟨y, e, h⟩ := h
    exact ⟨y, e, vrl_mono hI hA h⟩
theorem vrl_mono {I J : Imm} (hI : I.le J) {A A' : At} (hA : A.le A') : ∀ {vs : List V} {xs : List Value}, vrl I A vs xs → vrl J A' vs xs
  | [], _, h => by simpa [vrl] using h
  | _ :: _, _, h => by
    simp only [vrl] at h ⊢
    obtain ⟨x, xs, e, h1, h2⟩ := h
    exact ⟨x, xs, e, vr_mono hI hA h1, vrl_mono hI hA h2⟩
theorem vra_mono {I J : Imm} (hI : I.le J) : ∀ {b o : Nat} {vs : List V}, vra I b o vs → vra J b o vs
  | _, _, [], _ => by simp [vra]
  | _, _, _ :: _, h => by
    simp only [vra] at h ⊢
    obtain ⟨⟨x, e, h1⟩, h2⟩ := h
    exact ⟨⟨x, hI _ _ _ e, vr_mono hI (At.le_refl _) h1⟩, vra_mono hI h2⟩
end

mutual
/-- What refers to no block says the same of any. -/
theorem vr_pure {I : Imm} {A : At} : ∀ {v : V} {x : Value}, v.pure = true → vr I A v x → vr I At.bot v x
  | .bool _, _, _, h => by simpa [vr] using h
  | .int _ _, _, _, h => by simpa [vr] using h
  | .str _, _, _, h => by simpa [vr] using h
  | .nilp, _, _, h => by simpa [vr] using h
  | .ptr _ _, _, p, _ => by simp [V.pure] at p
  | .iptr _, _, _, h => by simpa [vr] using h
  | .nils, _, _, h => by simpa [vr] using h
  | .ze, _, _, h => by simpa [vr] using h
  | .vs _ _ _ .tight, _, _, h => by simpa [vr, ownR] using h
  | .vs _ _ _ .lock, _, _, h => by simpa [vr, ownR] using h
  | .vs _ _ _ (.tok _ _), _, p, _ => by simp [V.pure] at p
  | .hs _ _ _ _ _ _, _, p, _ => by simp [V.pure] at p
  | .nilm, _, _, h => by simpa [vr] using h
  | .map _, _, p, _ => by simp [V.pure] at p
  | .fn f _ _, _, p, h => by
    simp only [V.pure, Bool.and_eq_true] at p
    simp only [vr] at h ⊢
    obtain ⟨f', a', c', e, h1, h2, h3⟩ := h
    refine ⟨f', a', c', e, ?_, vrl_pure p.1.2 h2, vrl_pure p.2 h3⟩
    cases f <;> first | exact h1 | (simp at p)
  | .nilf, _, _, h => by simpa [vr] using h
  | .iface _ _, _, p, h => by
    simp only [V.pure] at p
    simp only [vr] at h ⊢
    obtain ⟨y, e, h⟩ := h
    exact ⟨y, e, vr_pure p h⟩
  | .nilif, _, _, h => by simpa [vr] using h
  | .agg _, _, p, h => by
    simp only [V.pure] at p
    simp only [vr] at h ⊢
    obtain ⟨y, e, h⟩ := h
    exact ⟨y, e, vrl_pure p h⟩
  | .tup _, _, p, h => by
    simp only [V.pure] at p
    simp only [vr] at h ⊢
    obtain ⟨y, e, h⟩ := h
    exact ⟨y, e, vrl_pure p h⟩
theorem vrl_pure {I : Imm} {A : At} : ∀ {vs : List V} {xs : List Value}, V.pures vs = true → vrl I A vs xs → vrl I At.bot vs xs
  | [], _, _, h => by simpa [vrl] using h
  | _ :: _, _, p, h => by
    simp only [V.pures, Bool.and_eq_true] at p
    simp only [vrl] at h ⊢
    obtain ⟨x, xs, e, h1, h2⟩ := h
    exact ⟨x, xs, e, vr_pure p.1 h1, vrl_pure p.2 h2⟩
end

mutual
theorem vr_seal {I : Imm} {A : At} : ∀ {v : V} {x : Value}, vr I A v x → vr I A v.shut x
  | .bool _, _, h => by simpa [V.shut] using h
  | .int _ _, _, h => by simpa [V.shut] using h
  | .str _, _, h => by simpa [V.shut] using h
  | .nilp, _, h => by simpa [V.shut] using h
  | .ptr _ _, _, h => by simpa [V.shut] using h
  | .iptr _, _, h => by simpa [V.shut] using h
  | .nils, _, h => by simpa [V.shut] using h
  | .ze, _, h => by simpa [V.shut] using h
  | .vs _ _ _ .tight, _, h => by simpa [V.shut] using h
  | .vs _ _ _ .lock, _, h => by simpa [V.shut] using h
  | .vs _ _ _ (.tok _ _), _, h => by
    simp only [V.shut, vr] at h ⊢
    obtain ⟨b, o, cap, e, h1, h2, h3, _⟩ := h
    exact ⟨b, o, cap, e, h1, h2, h3, trivial⟩
  | .hs _ _ _ _ _ _, _, h => by simpa [V.shut] using h
  | .nilm, _, h => by simpa [V.shut] using h
  | .map _, _, h => by simpa [V.shut] using h
  | .fn _ _ _, _, h => by
    simp only [V.shut, vr] at h ⊢
    obtain ⟨f', a', c', e, h1, h2, h3⟩ := h
    exact ⟨f', a', c', e, h1, vrl_seals h2, vrl_seals h3⟩
  | .nilf, _, h => by simpa [V.shut] using h
  | .iface _ _, _, h => by
    simp only [V.shut, vr] at h ⊢
    obtain ⟨y, e, h⟩ := h
    exact ⟨y, e, vr_seal h⟩
  | .nilif, _, h => by simpa [V.shut] using h
  | .agg _, _, h => by
    simp only [V.shut, vr] at h ⊢
    obtain ⟨y, e, h⟩ := h
    exact ⟨y, e, vrl_seals h⟩
  | .tup _, _, h => by
    simp only [V.shut, vr] at h ⊢
    obtain ⟨y, e, h⟩ := h
    exact ⟨y, e, vrl_seals h⟩
theorem vrl_seals {I : Imm} {A : At} : ∀ {vs : List V} {xs : List Value}, vrl I A vs xs → vrl I A (V.seals vs) xs
  | [], _, h => by simpa [V.seals] using h
  | _ :: _, _, h => by
    simp only [V.seals, vrl] at h ⊢
    obtain ⟨x, xs, e, h1, h2⟩ := h
    exact ⟨x, xs, e, vr_seal h1, vrl_seals h2⟩
end

/-! ### Lists -/
theorem vrl_len {I : Imm} {A : At} : ∀ {vs : List V} {xs : List Value}, vrl I A vs xs → xs.length = vs.length
  | [], _, h => by simp [vrl] at h; simp [h]
  | _ :: _, _, h => by
    simp only [vrl] at h
    obtain ⟨x, xs, rfl, _, h2⟩ := h
    simp [vrl_len h2]

theorem vrl_get {I : Imm} {A : At} : ∀ {vs : List V} {xs : List Value}, vrl I A vs xs → ∀ {i : Nat} {v : V}, vs[i]? = some v → ∃ x, xs[i]? = some x ∧ vr I A v x
  | [], _, _, i, v, hv => by simp at hv
  | _ :: _, _, h, i, v, hv => by
    simp only [vrl] at h
    obtain ⟨x, xs, rfl, h1, h2⟩ := h
    cases i with
    | zero => simp at hv; subst hv; exact ⟨x, rfl, h1⟩
    | succ i => simp at hv; simpa using vrl_get h2 hv

theorem vrl_of_get {I : Imm} {A : At} : ∀ {vs : List V} {xs : List Value}, xs.length = vs.length → (∀ (i : Nat) (v : V), vs[i]? = some v → ∃ x, xs[i]? = some x ∧ vr I A v x) → vrl I A vs xs
  | [], xs, hl, _ => by simp only [vrl]; simpa using hl
  | v :: vs, xs, hl, h => by
    cases xs with
    | nil => simp at hl
    | cons x xs =>
      simp only [vrl]
      obtain ⟨y, hy, hv⟩ := h 0 v rfl
      simp at hy; subst hy
      exact ⟨x, xs, rfl, hv, vrl_of_get (by simpa using hl) (fun i u hu => by simpa using h (i + 1) u (by simpa using hu))⟩

theorem vrl_append {I : Imm} {A : At} {vs us : List V} {xs ys : List Value} (h : vrl I A vs xs) (h' : vrl I A us ys) : vrl I A (vs ++ us) (xs ++ ys) := by
  induction vs generalizing xs with
  | nil => simp [vrl] at h; simpa [h] using h'
  | cons v vs ih =>
    simp only [vrl] at h
    obtain ⟨x, xs, rfl, h1, h2⟩ := h
    simp only [List.cons_append, vrl]
    exact ⟨x, xs ++ ys, rfl, h1, ih h2⟩

theorem vrl_take {I : Imm} {A : At} {vs : List V} {xs : List Value} (h : vrl I A vs xs) (n : Nat) : vrl I A (vs.take n) (xs.take n) := by
  induction vs generalizing xs n with
  | nil => simp [vrl] at h; simp [h, vrl]
  | cons v vs ih =>
    simp only [vrl] at h
    obtain ⟨x, xs, rfl, h1, h2⟩ := h
    cases n with
    | zero => simp [vrl]
    | succ n => simp only [List.take_succ_cons, vrl]; exact ⟨x, xs.take n, rfl, h1, ih h2 n⟩

theorem vrl_drop {I : Imm} {A : At} {vs : List V} {xs : List Value} (h : vrl I A vs xs) (n : Nat) : vrl I A (vs.drop n) (xs.drop n) := by
  induction vs generalizing xs n with
  | nil => simp [vrl] at h; simp [h, vrl]
  | cons v vs ih =>
    cases n with
    | zero => simpa using h
    | succ n =>
      simp only [vrl] at h
      obtain ⟨x, xs, rfl, h1, h2⟩ := h
      simpa using ih h2 n

theorem vrl_splice {I : Imm} {A : At} {cs new cs' : List V} {xs ys : List Value} {off : Nat} (h : vrl I A cs xs) (h' : vrl I A new ys) (hs : splice cs new off = some cs') :
    off + new.length ≤ cs.length ∧ vrl I A cs' (xs.take off ++ ys ++ xs.drop (off + ys.length)) := by
  unfold splice at hs
  split at hs
  · rename_i hle
    obtain rfl := Option.some.inj hs
    refine ⟨hle, ?_⟩
    rw [vrl_len h']
    exact vrl_append (vrl_append (vrl_take h _) h') (vrl_drop h _)
  · cases hs

/-! ### Cells from an address on -/
theorem vra_iff {I : Imm} {vs : List V} : ∀ {b o : Nat}, vra I b o vs ↔ ∀ (i : Nat) (v : V), vs[i]? = some v → ∃ x, I b (o + i) = some x ∧ vr I At.bot v x := by
  induction vs with
  | nil => intro b o; simp [vra]
  | cons v vs ih =>
    intro b o
    simp only [vra, ih]
    constructor
    · rintro ⟨h1, h2⟩ i u hu
      cases i with
      | zero => simp at hu; subst hu; simpa using h1
      | succ i => simp at hu; have := h2 i u hu; rwa [Nat.add_assoc, Nat.add_comm 1 i] at this
    · intro h
      refine ⟨by simpa using h 0 v rfl, fun i u hu => ?_⟩
      have := h (i + 1) u (by simpa using hu)
      rwa [Nat.add_assoc, Nat.add_comm 1 i]

theorem vra_drop {I : Imm} {b o : Nat} {vs : List V} (h : vra I b o vs) (n : Nat) : vra I b (o + n) (vs.drop n) :=
  vra_iff.2 fun i v hv => by
    rw [List.getElem?_drop] at hv
    have := vra_iff.1 h _ v hv
    rwa [← Nat.add_assoc] at this

theorem vra_take {I : Imm} {b o : Nat} {vs : List V} (h : vra I b o vs) (n : Nat) : vra I b o (vs.take n) :=
  vra_iff.2 fun i v hv => by
    rw [List.getElem?_take] at hv
    split at hv
    · exact vra_iff.1 h i v hv
    · cases hv

theorem vra_append {I : Imm} {b o : Nat} {vs us : List V} (h : vra I b o vs) (h' : vra I b (o + vs.length) us) : vra I b o (vs ++ us) :=
  vra_iff.2 fun i v hv => by
    rw [List.getElem?_append] at hv
    split at hv
    · exact vra_iff.1 h i v hv
    · rename_i hge
      have := vra_iff.1 h' _ v hv
      rwa [show o + vs.length + (i - vs.length) = o + i by omega] at this

/-- The values that lie there. -/
theorem vra_vals {I : Imm} {b : Nat} {vs : List V} : ∀ {o : Nat}, vra I b o vs → ∃ xs : List Value, vrl I At.bot vs xs ∧ ∀ (i : Nat) (x : Value), xs[i]? = some x → I b (o + i) = some x := by
  induction vs with
  | nil => intro o _; exact ⟨[], by simp [vrl], by simp⟩
  | cons v vs ih =>
    intro o h
    simp only [vra] at h
    obtain ⟨⟨x, hx, hv⟩, h2⟩ := h
    obtain ⟨xs, hl, hi⟩ := ih h2
    refine ⟨x :: xs, by simp only [vrl]; exact ⟨x, xs, rfl, hv, hl⟩, fun i y hy => ?_⟩
    cases i with
    | zero => simp at hy; subst hy; simpa using hx
    | succ i => simp at hy; have := hi i y hy; rwa [Nat.add_assoc, Nat.add_comm 1 i] at this

theorem vra_of_vals {I : Imm} {b o : Nat} {vs : List V} {xs : List Value} (hl : vrl I At.bot vs xs) (hi : ∀ (i : Nat) (x : Value), xs[i]? = some x → I b (o + i) = some x) : vra I b o vs :=
  vra_iff.2 fun i v hv => by
    obtain ⟨x, hx, hv⟩ := vrl_get hl hv
    exact ⟨x, hi i x hx, hv⟩

/-! ### Constants -/
mutual
theorem vr_ofValue {I : Imm} {A : At} : ∀ {x : Value} {v : V}, ofValue x = some v → vr I A v x
  | .bool _, v, h => by simp [ofValue] at h; subst h; simp [vr]
  | .int _ _, v, h => by simp [ofValue] at h; subst h; simp [vr]
  | .float _ _, v, h => by simp [ofValue] at h
  | .complex _ _ _, v, h => by simp [ofValue] at h
  | .string _, v, h => by simp [ofValue] at h; subst h; simp [vr]
  | .pointer none, v, h => by simp [ofValue] at h; subst h; simp [vr]
  | .pointer (some _), v, h => by simp [ofValue] at h
  | .slice none 0 0, v, h => by simp [ofValue] at h; subst h; simp [vr]
  | .slice none 0 (_ + 1), v, h => by simp [ofValue] at h
  | .slice none (_ + 1) _, v, h => by simp [ofValue] at h
  | .slice (some _) _ _, v, h => by simp [ofValue] at h
  | .map none, v, h => by simp [ofValue] at h; subst h; simp [vr]
  | .map (some _), v, h => by simp [ofValue] at h
  | .chan _, v, h => by simp [ofValue] at h
  | .func _ _ _, v, h => by simp [ofValue] at h
  | .nilFunc, v, h => by simp [ofValue] at h; subst h; simp [vr]
  | .iface _ _, v, h => by simp [ofValue] at h
  | .nilIface, v, h => by simp [ofValue] at h; subst h; simp [vr]
  | .agg ⟨cs⟩, v, h => by
    simp only [ofValue] at h
    cases hc : ofValues cs with
    | none => simp [hc] at h
    | some us => simp [hc] at h; subst h; simp only [vr]; exact ⟨⟨cs⟩, rfl, vrl_ofValues hc⟩
  | .tuple ⟨cs⟩, v, h => by
    simp only [ofValue] at h
    cases hc : ofValues cs with
    | none => simp [hc] at h
    | some us => simp [hc] at h; subst h; simp only [vr]; exact ⟨⟨cs⟩, rfl, vrl_ofValues hc⟩
theorem vrl_ofValues {I : Imm} {A : At} : ∀ {xs : List Value} {vs : List V}, ofValues xs = some vs → vrl I A vs xs
  | [], vs, h => by simp [ofValues] at h; subst h; simp [vrl]
  | x :: xs, vs, h => by
    simp only [ofValues] at h
    cases h1 : ofValue x with
    | none => simp [h1] at h
    | some v =>
      cases h2 : ofValues xs with
      | none => simp [h1, h2] at h
      | some us =>
        simp [h1, h2] at h; subst h
        simp only [vrl]
        exact ⟨x, xs, rfl, vr_ofValue h1, vrl_ofValues h2⟩
end

theorem vr_undef {I : Imm} {A : At} : vr I A undefV undef := by simp [undefV, undef, vr, vrl]

theorem vr_cells {I : Imm} {A : At} {v : V} {x : Value} (h : vr I A v x) : vrl I A v.cells x.cells.toList := by
  cases v with
  | agg cs => simp only [vr] at h; obtain ⟨ys, rfl, h⟩ := h; exact h
  | _ =>
    have hx : x.cells = #[x] := by
      simp only [vr] at h
      cases x <;> first | rfl | (simp at h)
    simp only [V.cells, hx, vrl]
    exact ⟨x, [], by simp, h, rfl⟩

end Go.Ae

/- The abstract evaluator: what its blocks say of the machine's memory. -/
namespace Go.Ae

/-- What is not in the evaluator's own state: the cells that no longer change; of each block the machine's block, where it begins there (of a right to append: where the slice ends), how many cells the machine's block has. -/
structure G where
  I : Imm
  mu : Nat → Nat
  base : Nat → Nat
  ts : Nat → Nat

/-- Neither a right to append nor kept free. -/
def Blk.firm : Blk → Bool
  | .tok _ | .resv => false
  | _ => true

def Blk.live : Blk → Bool
  | .gone | .resv => false
  | _ => true

/-- What references say. -/
def G.at (g : G) (get : Nat → Blk) (n : Nat) : At where
  ptr r off a := r < n ∧ (get r).firm = true ∧ a = ⟨g.mu r, g.base r + off, none⟩
  hs r off len cap sz ex a c := r < n ∧ (get r).firm = true ∧ a = ⟨g.mu r, g.base r + off, none⟩ ∧ len ≤ cap ∧ cap ≤ c ∧ (ex = true → c = cap) ∧ g.base r + off + c * sz ≤ g.ts r
  map r b := r < n ∧ (get r).firm = true ∧ b = g.mu r
  yld r l := r < n ∧ (get r).firm = true ∧ l = g.mu r
  tok r e b k c := r < n ∧ get r ≠ .resv ∧ ∀ hw, get r = .tok hw → e ≤ hw ∧ (e = hw → b = g.mu r ∧ k = g.base r ∧ c ≤ g.ts r)

/-- Temporaries. -/
structure RR (I : Imm) (A : At) (regs : T V) (tmps : Array Value) : Prop where
  full : regs.full tmps.size
  val : ∀ t, vr I A (regs.get undefV t) (tmps.getD t undef)

theorem RR.mono {I J : Imm} (hI : I.le J) {A A' : At} (hA : A.le A') {regs : T V} {tmps : Array Value} (h : RR I A regs tmps) : RR J A' regs tmps := ⟨h.full, fun t => vr_mono hI hA (h.val t)⟩

theorem RR.set {I : Imm} {A : At} {regs : T V} {tmps : Array Value} (h : RR I A regs tmps) (t : Nat) {v : V} {x : Value} (hv : vr I A v x) : RR I A (regs.set t v) (tmps.setIfInBounds t x) := by
  refine ⟨by rw [Array.size_setIfInBounds]; exact T.full_set h.full t v, fun j => ?_⟩
  rw [T.get_set_full _ h.full]
  by_cases hj : j = t ∧ t < tmps.size
  · obtain ⟨rfl, hlt⟩ := hj
    rw [if_pos ⟨rfl, hlt⟩]
    simpa [Array.getD, hlt] using hv
  · rw [if_neg hj]
    have := h.val j
    by_cases hjt : j = t
    · subst hjt
      have hge : ¬ j < tmps.size := fun hh => hj ⟨rfl, hh⟩
      simpa [Array.getD, hge] using this
    · have : (tmps.setIfInBounds t x).getD j undef = tmps.getD j undef := by
        simp [Array.getD_eq_getD_getElem?, Array.getElem?_setIfInBounds_ne (Ne.symm hjt)]
      rw [this]; exact h.val j

/-- Entries of a map. -/
def entsR (I : Imm) (A : At) : List (V × V) → List MapEntry → Prop
  | [], es => es = []
  | (k, v) :: l, es => ∃ e es', es = e :: es' ∧ vr I A k e.key ∧ vr I A v e.val ∧ entsR I A l es'

theorem entsR_mono {I J : Imm} (hI : I.le J) {A A' : At} (hA : A.le A') : ∀ {l : List (V × V)} {es : List MapEntry}, entsR I A l es → entsR J A' l es
  | [], _, h => h
  | (_, _) :: _, _, ⟨e, es', h, h1, h2, h3⟩ => ⟨e, es', h, vr_mono hI hA h1, vr_mono hI hA h2, entsR_mono hI hA h3⟩

/-- A block, and the machine's. -/
def blkR (g : G) (get : Nat → Blk) (n : Nat) (w : World) (r : Nat) : Blk → Prop
  | .row k cs => ∃ c e, w.heap[g.mu r]? = some (.cells c e (0, 0)) ∧ c.size = g.ts r ∧ g.base r + cs.length ≤ c.size ∧
      (∀ (i : Nat) (v : V), cs[i]? = some v → ∃ x, c[g.base r + i]? = some x ∧ vr g.I (g.at get n) v x) ∧ ∀ o, g.base r + k ≤ o → g.I (g.mu r) o = none
  | .tok _ => ∃ c e, w.heap[g.mu r]? = some (.cells c e (0, 0)) ∧ c.size = g.ts r ∧ g.base r ≤ c.size ∧ ∀ o, g.base r ≤ o → g.I (g.mu r) o = none
  | .map es _ => ∃ ents clock, w.heap[g.mu r]? = some (.map ents clock) ∧ entsR g.I (g.at get n) es ents.toList ∧ (ents.toList.map (·.born)).Nodup ∧ ∀ e ∈ ents.toList, e.born < clock
  | .iter none _ _ _ => g.base r = 0 ∧ w.heap[g.mu r]? = some (.mapIter none 0 #[] 0)
  | .iter (some m) ver left cur => m < n ∧ (get m).firm = true ∧ g.base r = 0 ∧ ∃ since seen last, w.heap[g.mu r]? = some (.mapIter (some (g.mu m)) since seen last) ∧
      (∀ es ver', get m = .map es ver' → ver ≤ ver') ∧ ∀ es, get m = .map es ver → ∃ ents, w.heap[g.mu m]? = some (.map ents since) ∧ last = since ∧
        entsR g.I (g.at get n) left (ents.toList.filter fun e => !seen.contains e.born) ∧
        ∀ k v, cur = some (k, v) → ∃ stamp e, seen.back? = some stamp ∧ ents.find? (·.born == stamp) = some e ∧ vr g.I (g.at get n) k e.key ∧ vr g.I (g.at get n) v e.val
  | .loop _ regs params assign body pend st d => ∃ L : Loop, w.heap[g.mu r]? = some (.loop L) ∧ L.state = st ∧ L.pending = pend ∧ L.params.toList = params ∧ L.assign = assign ∧ L.body = body ∧
      RR g.I (g.at get n) regs L.tmps ∧ d < n ∧ (get d).firm = true ∧ L.defers = g.mu d
  | .dfr => w.heap[g.mu r]? = some (.deferred (some []))
  | .gone | .resv => True

/-- The evaluator's heap, and the machine's. -/
structure WR (g : G) (get : Nat → Blk) (n : Nat) (w : World) : Prop where
  imm : ∀ b o x, g.I b o = some x → w.cell? ⟨b, o, none⟩ = some x
  blk : ∀ r, r < n → blkR g get n w r (get r)
  inj : ∀ r r', r < n → r' < n → (get r).live = true → (get r').live = true → g.mu r = g.mu r' → r = r'

/-- The machine's blocks that may change. -/
def G.img (g : G) (get : Nat → Blk) (n : Nat) (b : Nat) : Prop := ∃ r, r < n ∧ (get r).live = true ∧ g.mu r = b

/-- How things go on. -/
structure Ext (g : G) (get : Nat → Blk) (n : Nat) (w : World) (g' : G) (get' : Nat → Blk) (n' : Nat) (w' : World) : Prop where
  n_le : n ≤ n'
  I_le : g.I.le g'.I
  I_new : ∀ b o x, g'.I b o = some x → g.I b o = some x ∨ w.heap.size ≤ b ∨ g.img get n b
  size : w.heap.size ≤ w'.heap.size
  frame : ∀ b, b < w.heap.size → ¬ g.img get n b → w'.heap[b]? = w.heap[b]?
  back : ∀ b, b < w.heap.size → g'.img get' n' b → g.img get n b
  ids : ∀ r, r < n → (get r).firm = true → (get' r).firm = true ∧ g'.mu r = g.mu r ∧ g'.base r = g.base r ∧ g'.ts r = g.ts r
  kept : ∀ r, r < n → get r ≠ .resv → get' r ≠ .resv
  toks : ∀ r, r < n → ∀ hw hw', get r = .tok hw → get' r = .tok hw' → hw ≤ hw' ∧ (hw = hw' → g'.mu r = g.mu r ∧ g'.base r = g.base r ∧ g'.ts r = g.ts r)
  maps : ∀ r, r < n → ∀ es ver, get r = .map es ver → ∃ es' ver', get' r = .map es' ver' ∧ (ver < ver' ∨ (ver' = ver ∧ es' = es ∧ w'.heap[g.mu r]? = w.heap[g.mu r]?))
  tape : w'.tape = w.tape
  os : w'.os = w.os
  output : w'.output = w.output

theorem Ext.at_le {g g' : G} {get get' : Nat → Blk} {n n' : Nat} {w w' : World} (h : Ext g get n w g' get' n' w') : (g.at get n).le (g'.at get' n') where
  ptr r o a := by
    rintro ⟨h1, h2, rfl⟩
    obtain ⟨i1, i2, i3, _⟩ := h.ids r h1 h2
    exact ⟨Nat.lt_of_lt_of_le h1 h.n_le, i1, by rw [i2, i3]⟩
  hs r o l c s e a n := by
    rintro ⟨h1, h2, rfl, h3, h4, h5, h6⟩
    obtain ⟨i1, i2, i3, i4⟩ := h.ids r h1 h2
    exact ⟨Nat.lt_of_lt_of_le h1 h.n_le, i1, by rw [i2, i3], h3, h4, h5, by rw [i3, i4]; exact h6⟩
  map r b := by
    rintro ⟨h1, h2, rfl⟩
    obtain ⟨i1, i2, _⟩ := h.ids r h1 h2
    exact ⟨Nat.lt_of_lt_of_le h1 h.n_le, i1, i2.symm⟩
  yld r b := by
    rintro ⟨h1, h2, rfl⟩
    obtain ⟨i1, i2, _⟩ := h.ids r h1 h2
    exact ⟨Nat.lt_of_lt_of_le h1 h.n_le, i1, i2.symm⟩
  tok r e b k c := by
    rintro ⟨h1, h0, h2⟩
    refine ⟨Nat.lt_of_lt_of_le h1 h.n_le, h.kept r h1 h0, fun hw' hg' => ?_⟩
    cases hg : get r with
    | tok hw =>
      obtain ⟨t1, t2⟩ := h.toks r h1 hw hw' hg hg'
      obtain ⟨e1, e2⟩ := h2 hw hg
      refine ⟨Nat.le_trans e1 t1, fun e => ?_⟩
      have hww : hw = hw' := by omega
      obtain ⟨m1, m2, m3⟩ := t2 hww
      obtain ⟨f1, f2, f3⟩ := e2 (by omega)
      exact ⟨by rw [m1]; exact f1, by rw [m2]; exact f2, by rw [m3]; exact f3⟩
    | resv => exact absurd hg h0
    | _ =>
      have := (h.ids r h1 (by rw [hg]; rfl)).1
      rw [hg'] at this; cases this

theorem Ext.vr {g g' : G} {get get' : Nat → Blk} {n n' : Nat} {w w' : World} (h : Ext g get n w g' get' n' w') {v : V} {x : Value} (hv : vr g.I (g.at get n) v x) : vr g'.I (g'.at get' n') v x := vr_mono h.I_le h.at_le hv
theorem Ext.vrl {g g' : G} {get get' : Nat → Blk} {n n' : Nat} {w w' : World} (h : Ext g get n w g' get' n' w') {v : List V} {x : List Value} (hv : vrl g.I (g.at get n) v x) : Ae.vrl g'.I (g'.at get' n') v x := vrl_mono h.I_le h.at_le hv
theorem Ext.rr {g g' : G} {get get' : Nat → Blk} {n n' : Nat} {w w' : World} (h : Ext g get n w g' get' n' w') {regs : T V} {tmps : Array Value} (hv : RR g.I (g.at get n) regs tmps) : RR g'.I (g'.at get' n') regs tmps := hv.mono h.I_le h.at_le

theorem Ext.refl (g : G) (get : Nat → Blk) (n : Nat) (w : World) : Ext g get n w g get n w where
  n_le := Nat.le_refl _
  I_le := Imm.le_refl _
  I_new _ _ _ h := .inl h
  size := Nat.le_refl _
  frame _ _ _ := rfl
  back _ _ h := h
  ids _ _ h := ⟨h, rfl, rfl, rfl⟩
  kept _ _ h := h
  toks _ _ hw hw' e e' := by rw [e] at e'; cases e'; exact ⟨Nat.le_refl _, fun _ => ⟨rfl, rfl, rfl⟩⟩
  maps _ _ es ver e := ⟨es, ver, e, .inr ⟨rfl, rfl, rfl⟩⟩
  tape := rfl
  os := rfl
  output := rfl

theorem Ext.trans {g g1 g2 : G} {get get1 get2 : Nat → Blk} {n n1 n2 : Nat} {w w1 w2 : World} (h : Ext g get n w g1 get1 n1 w1) (h' : Ext g1 get1 n1 w1 g2 get2 n2 w2) : Ext g get n w g2 get2 n2 w2 where
  n_le := Nat.le_trans h.n_le h'.n_le
  I_le := Imm.le_trans h.I_le h'.I_le
  I_new b o x hx := by
    rcases h'.I_new b o x hx with h1 | h1 | h1
    · exact h.I_new b o x h1
    · exact .inr (.inl (Nat.le_trans h.size h1))
    · by_cases hb : b < w.heap.size
      · exact .inr (.inr (h.back b hb h1))
      · exact .inr (.inl (by omega))
  size := Nat.le_trans h.size h'.size
  frame b hb hn := by
    rw [h'.frame b (Nat.lt_of_lt_of_le hb h.size) (fun hi => hn (h.back b hb hi)), h.frame b hb hn]
  back b hb hi := h.back b hb (h'.back b (Nat.lt_of_lt_of_le hb h.size) hi)
  ids r hr ht := by
    obtain ⟨a1, a2, a3, a4⟩ := h.ids r hr ht
    obtain ⟨b1, b2, b3, b4⟩ := h'.ids r (Nat.lt_of_lt_of_le hr h.n_le) a1
    exact ⟨b1, b2.trans a2, b3.trans a3, b4.trans a4⟩
  kept r hr hn := h'.kept r (Nat.lt_of_lt_of_le hr h.n_le) (h.kept r hr hn)
  toks r hr hw hw'' e e'' := by
    cases hg : get1 r with
    | resv => exact absurd hg (h.kept r hr (by rw [e]; simp))
    | tok hw' =>
      obtain ⟨a1, a2⟩ := h.toks r hr hw hw' e hg
      obtain ⟨b1, b2⟩ := h'.toks r (Nat.lt_of_lt_of_le hr h.n_le) hw' hw'' hg e''
      refine ⟨Nat.le_trans a1 b1, fun he => ?_⟩
      obtain ⟨c1, c2, c3⟩ := a2 (by omega)
      obtain ⟨d1, d2, d3⟩ := b2 (by omega)
      exact ⟨d1.trans c1, d2.trans c2, d3.trans c3⟩
    | _ =>
      have := (h'.ids r (Nat.lt_of_lt_of_le hr h.n_le) (by rw [hg]; rfl)).1
      rw [e''] at this; cases this
  maps r hr es ver e := by
    obtain ⟨es1, ver1, e1, h1⟩ := h.maps r hr es ver e
    obtain ⟨es2, ver2, e2, h2⟩ := h'.maps r (Nat.lt_of_lt_of_le hr h.n_le) es1 ver1 e1
    refine ⟨es2, ver2, e2, ?_⟩
    rcases h1 with h1 | ⟨rfl, rfl, h1⟩
    · rcases h2 with h2 | ⟨rfl, rfl, h2⟩
      · exact .inl (by omega)
      · exact .inl h1
    · rcases h2 with h2 | ⟨rfl, rfl, h2⟩
      · exact .inl h2
      · refine .inr ⟨rfl, rfl, ?_⟩
        have hm := (h.ids r hr (by rw [e]; rfl)).2.1
        rw [hm] at h2
        rw [h2, h1]
  tape := h'.tape.trans h.tape
  os := h'.os.trans h.os
  output := h'.output.trans h.output

/-- A block that is left alone. -/
theorem blkR_keep {g g' : G} {get get' : Nat → Blk} {n n' : Nat} {w w' : World} (e : Ext g get n w g' get' n' w') {r : Nat} {b : Blk}
    (hmu : g'.mu r = g.mu r) (hbase : g'.base r = g.base r) (hts : g'.ts r = g.ts r) (hheap : b.live = true → w'.heap[g.mu r]? = w.heap[g.mu r]?)
    (hI : b.live = true → ∀ o x, g'.I (g.mu r) o = some x → g.I (g.mu r) o = some x)
    (hiter : ∀ m ver left cur, b = .iter (some m) ver left cur → (∀ es ver', get' m = .map es ver' → get m = .map es ver' ∨ ver < ver') ∧ (∀ es, get' m = .map es ver → w'.heap[g.mu m]? = w.heap[g.mu m]?))
    (h : blkR g get n w r b) : blkR g' get' n' w' r b := by
  cases b with
  | row k cs =>
    obtain ⟨c, el, h1, h2, h3, h4, h5⟩ := h
    refine ⟨c, el, by rw [hmu, hheap rfl]; exact h1, by rw [hts]; exact h2, by rw [hbase]; exact h3, fun i v hv => ?_, fun o ho => ?_⟩
    · obtain ⟨x, hx, hvr⟩ := h4 i v hv
      exact ⟨x, by rw [hbase]; exact hx, e.vr hvr⟩
    · rw [hbase] at ho
      rw [hmu]
      cases hh : g'.I (g.mu r) o with
      | none => rfl
      | some x => have := hI rfl o x hh; rw [h5 o ho] at this; cases this
  | tok hw =>
    obtain ⟨c, el, h1, h2, h3, h5⟩ := h
    refine ⟨c, el, by rw [hmu, hheap rfl]; exact h1, by rw [hts]; exact h2, by rw [hbase]; exact h3, fun o ho => ?_⟩
    rw [hbase] at ho
    rw [hmu]
    cases hh : g'.I (g.mu r) o with
    | none => rfl
    | some x => have := hI rfl o x hh; rw [h5 o ho] at this; cases this
  | map es ver =>
    obtain ⟨ents, clock, h1, h2, h3⟩ := h
    exact ⟨ents, clock, by rw [hmu, hheap rfl]; exact h1, entsR_mono e.I_le e.at_le h2, h3⟩
  | iter m ver left cur =>
    cases m with
    | none =>
      obtain ⟨h1, h2⟩ := h
      exact ⟨by rw [hbase]; exact h1, by rw [hmu, hheap rfl]; exact h2⟩
    | some m =>
      obtain ⟨h1, h2, h3, since, seen, last, h4, h5, h6⟩ := h
      obtain ⟨i1, i2⟩ := hiter m ver left cur rfl
      obtain ⟨j1, j2, _, _⟩ := e.ids m h1 h2
      refine ⟨Nat.lt_of_lt_of_le h1 e.n_le, j1, by rw [hbase]; exact h3, since, seen, last, by rw [hmu, hheap rfl, j2]; exact h4, fun es ver' hg => ?_, fun es hg => ?_⟩
      · rcases i1 es ver' hg with hh | hh
        · exact h5 es ver' hh
        · omega
      · rcases i1 es ver hg with hh | hh
        · obtain ⟨ents, k1, k2, k3, k4⟩ := h6 es hh
          refine ⟨ents, by rw [j2, i2 es hg]; exact k1, k2, entsR_mono e.I_le e.at_le k3, fun k v hc => ?_⟩
          obtain ⟨stamp, en, q1, q2, q3, q4⟩ := k4 k v hc
          exact ⟨stamp, en, q1, q2, e.vr q3, e.vr q4⟩
        · omega
  | loop fn regs params assign body pend st d =>
    obtain ⟨L, h1, h2, h3, h5, h6, h7, h8, h9, h10, h11⟩ := h
    obtain ⟨j1, j2, _, _⟩ := e.ids d h9 h10
    exact ⟨L, by rw [hmu, hheap rfl]; exact h1, h2, h3, h5, h6, h7, e.rr h8, Nat.lt_of_lt_of_le h9 e.n_le, j1, by rw [j2]; exact h11⟩
  | dfr => exact (by rw [hmu, hheap rfl]; exact h : w'.heap[g'.mu r]? = some (.deferred (some [])))
  | gone => trivial
  | resv => trivial

/-- Some blocks turn (C), and those from n on are new. -/
theorem WR.step {g g' : G} {get get' : Nat → Blk} {n n' : Nat} {w w' : World} (C : Nat → Prop) (h : WR g get n w) (e : Ext g get n w g' get' n' w')
    (himm : ∀ b o x, g'.I b o = some x → w'.cell? ⟨b, o, none⟩ = some x)
    (same : ∀ r, r < n → ¬ C r → get' r = get r ∧ g'.mu r = g.mu r ∧ g'.base r = g.base r ∧ g'.ts r = g.ts r ∧
      ((get r).live = true → w'.heap[g.mu r]? = w.heap[g.mu r]? ∧ ∀ o x, g'.I (g.mu r) o = some x → g.I (g.mu r) o = some x))
    (new : ∀ r, r < n' → (C r ∨ n ≤ r) → blkR g' get' n' w' r (get' r))
    (inj : ∀ r r', r < n' → r' < n' → (C r ∨ n ≤ r) → (get' r).live = true → (get' r').live = true → g'.mu r = g'.mu r' → r = r')
    (iter : ∀ r m ver left cur, r < n → ¬ C r → get r = .iter (some m) ver left cur → C m → ∀ es ver', get' m = .map es ver' → ver < ver') : WR g' get' n' w' where
  imm := himm
  blk r hr := by
    by_cases hc : C r ∨ n ≤ r
    · exact new r hr hc
    · have hlt : r < n := by
        rcases Nat.lt_or_ge r n with hh | hh
        · exact hh
        · exact absurd (.inr hh) hc
      have hnc : ¬ C r := fun hh => hc (.inl hh)
      obtain ⟨s1, s2, s3, s4, s5⟩ := same r hlt hnc
      rw [s1]
      have hbl := h.blk r hlt
      refine blkR_keep e s2 s3 s4 (fun hl => (s5 hl).1) (fun hl => (s5 hl).2) (fun m ver left cur hb => ?_) hbl
      rw [hb] at hbl
      have hm : m < n := hbl.1
      by_cases hcm : C m
      · have := iter r m ver left cur hlt hnc hb hcm
        exact ⟨fun es ver' hg => .inr (this es ver' hg), fun es hg => absurd (this es ver hg) (by omega)⟩
      · obtain ⟨t1, _, _, _, t5⟩ := same m hm hcm
        refine ⟨fun es ver' hg => .inl (by rw [← t1]; exact hg), fun es hg => (t5 ?_).1⟩
        rw [← t1, hg]; rfl
  inj r r' hr hr' hl hl' hmu := by
    by_cases hc : C r ∨ n ≤ r
    · exact inj r r' hr hr' hc hl hl' hmu
    · by_cases hc' : C r' ∨ n ≤ r'
      · exact (inj r' r hr' hr hc' hl' hl hmu.symm).symm
      · have hlt : r < n := by
          rcases Nat.lt_or_ge r n with hh | hh
          · exact hh
          · exact absurd (.inr hh) hc
        have hlt' : r' < n := by
          rcases Nat.lt_or_ge r' n with hh | hh
          · exact hh
          · exact absurd (.inr hh) hc'
        obtain ⟨s1, s2, _⟩ := same r hlt (fun hh => hc (.inl hh))
        obtain ⟨t1, t2, _⟩ := same r' hlt' (fun hh => hc' (.inl hh))
        rw [s1] at hl; rw [t1] at hl'; rw [s2, t2] at hmu
        exact h.inj r r' hlt hlt' hl hl' hmu

/-- Only the count of draws has turned. -/
theorem WR.drew {g : G} {get : Nat → Blk} {n : Nat} {w : World} (h : WR g get n w) (k : Nat) : WR g get n { w with drawn := k } :=
  ⟨h.imm, h.blk, h.inj⟩
theorem Ext.drew (g : G) (get : Nat → Blk) (n : Nat) (w : World) (k : Nat) : Ext g get n w g get n { w with drawn := k } where
  n_le := Nat.le_refl _
  I_le := Imm.le_refl _
  I_new _ _ _ h := .inl h
  size := Nat.le_refl _
  frame _ _ _ := rfl
  back _ _ h := h
  ids _ _ h := ⟨h, rfl, rfl, rfl⟩
  kept _ _ h := h
  toks _ _ hw hw' e e' := by rw [e] at e'; cases e'; exact ⟨Nat.le_refl _, fun _ => ⟨rfl, rfl, rfl⟩⟩
  maps _ _ es ver e := ⟨es, ver, e, .inr ⟨rfl, rfl, rfl⟩⟩
  tape := rfl
  os := rfl
  output := rfl

end Go.Ae

/- The abstract evaluator: how memory turns. -/
namespace Go.Ae

theorem alloc_size (w : World) (o : Obj) : w.heap.size ≤ (w.alloc o).heap.size := by
  show w.heap.size ≤ (w.heap.push o).size
  simp
theorem alloc_old (w : World) (o : Obj) {b : Nat} (hb : b < w.heap.size) : (w.alloc o).heap[b]? = w.heap[b]? := by
  show (w.heap.push o)[b]? = w.heap[b]?
  simp [Array.getElem?_push, Nat.ne_of_lt hb]
theorem alloc_new (w : World) (o : Obj) : (w.alloc o).heap[w.heap.size]? = some o := by
  show (w.heap.push o)[w.heap.size]? = some o
  simp
theorem cell_new (w : World) (c : Array Value) (el : TypeId) (i : Nat) : (w.alloc (.cells c el)).cell? ⟨w.heap.size, i, none⟩ = c[i]? := by
  unfold World.cell?
  simp only [alloc_new]
  simp

theorem heap_lt {w : World} {b : Nat} {o : Obj} (h : w.heap[b]? = some o) : b < w.heap.size := (Array.getElem?_eq_some_iff.1 h).1

theorem WR.lt {g : G} {get : Nat → Blk} {n : Nat} {w : World} (h : WR g get n w) {r : Nat} (hr : r < n) (hl : (get r).live = true) : g.mu r < w.heap.size := by
  have hb := h.blk r hr
  cases hg : get r with
  | row k cs => rw [hg] at hb; obtain ⟨c, e, h1, _⟩ := hb; exact heap_lt h1
  | tok hw => rw [hg] at hb; obtain ⟨c, e, h1, _⟩ := hb; exact heap_lt h1
  | map es ver => rw [hg] at hb; obtain ⟨c, e, h1, _⟩ := hb; exact heap_lt h1
  | iter m ver left cur =>
    rw [hg] at hb
    cases m with
    | none => exact heap_lt hb.2
    | some m => obtain ⟨_, _, _, _, _, _, h1, _⟩ := hb; exact heap_lt h1
  | loop fn regs params assign body pend st d => rw [hg] at hb; obtain ⟨L, h1, _⟩ := hb; exact heap_lt h1
  | dfr => rw [hg] at hb; exact heap_lt hb
  | gone => rw [hg] at hl; cases hl
  | resv => rw [hg] at hl; cases hl

/-- Some numbers (C) and some of the machine's blocks (D) turn. -/
theorem WR.go {g g' : G} {get get' : Nat → Blk} {n n' : Nat} {w w' : World} (C D : Nat → Prop) (h : WR g get n w) (hn : n ≤ n')
    (hother : ∀ r, r < n → ¬ C r → get' r = get r ∧ g'.mu r = g.mu r ∧ g'.base r = g.base r ∧ g'.ts r = g.ts r)
    (hnewid : ∀ r, n ≤ r → r < n' → C r) (hsize : w.heap.size ≤ w'.heap.size)
    (hD : ∀ b, b < w.heap.size → ¬ D b → w'.heap[b]? = w.heap[b]?)
    (hDimg : ∀ b, b < w.heap.size → D b → ∃ r, r < n ∧ C r ∧ (get r).live = true ∧ g.mu r = b)
    (hIle : g.I.le g'.I) (hInew : ∀ b o x, g'.I b o = some x → g.I b o = some x ∨ w.heap.size ≤ b ∨ D b)
    (himm : ∀ b o x, g'.I b o = some x → (w.heap.size ≤ b ∨ D b) → w'.cell? ⟨b, o, none⟩ = some x)
    (hids : ∀ r, r < n → C r → (get r).firm = true → (get' r).firm = true ∧ g'.mu r = g.mu r ∧ g'.base r = g.base r ∧ g'.ts r = g.ts r)
    (hkept : ∀ r, r < n → C r → get r ≠ .resv → get' r ≠ .resv)
    (htoks : ∀ r, r < n → C r → ∀ hw hw', get r = .tok hw → get' r = .tok hw' → hw ≤ hw' ∧ (hw = hw' → g'.mu r = g.mu r ∧ g'.base r = g.base r ∧ g'.ts r = g.ts r))
    (hmu : ∀ r, r < n' → C r → (get' r).live = true → w.heap.size ≤ g'.mu r ∨ ∃ r0, r0 < n ∧ C r0 ∧ (get r0).live = true ∧ g.mu r0 = g'.mu r)
    (hinj : ∀ r r', r < n' → r' < n' → C r → C r' → (get' r).live = true → (get' r').live = true → g'.mu r = g'.mu r' → r = r')
    (hiter : ∀ r m ver left cur, r < n → ¬ C r → get r = .iter (some m) ver left cur → C m → ∀ es ver', get' m = .map es ver' → ver < ver')
    (htape : w'.tape = w.tape) (hos : w'.os = w.os) (hout : w'.output = w.output)
    (hblk : Ext g get n w g' get' n' w' → ∀ r, r < n' → C r → blkR g' get' n' w' r (get' r))
    (hmaps : ∀ r, r < n → C r → ∀ es ver, get r = .map es ver → ∃ es' ver', get' r = .map es' ver' ∧ (ver < ver' ∨ (ver' = ver ∧ es' = es ∧ w'.heap[g.mu r]? = w.heap[g.mu r]?))) :
    WR g' get' n' w' ∧ Ext g get n w g' get' n' w' := by
  have e : Ext g get n w g' get' n' w' := {
    n_le := hn
    I_le := hIle
    I_new := fun b o x hx => by
      rcases hInew b o x hx with h1 | h1 | h1
      · exact .inl h1
      · exact .inr (.inl h1)
      · by_cases hb : b < w.heap.size
        · obtain ⟨r, hr, _, hl, hm⟩ := hDimg b hb h1
          exact .inr (.inr ⟨r, hr, hl, hm⟩)
        · exact .inr (.inl (by omega))
    size := hsize
    frame := fun b hb hni => hD b hb fun hd => by
      obtain ⟨r, hr, _, hl, hm⟩ := hDimg b hb hd
      exact hni ⟨r, hr, hl, hm⟩
    back := fun b hb hi => by
      obtain ⟨r, hr, hl, hm⟩ := hi
      by_cases hc : C r
      · rcases hmu r hr hc hl with h1 | ⟨r0, h1, _, h3, h4⟩
        · omega
        · exact ⟨r0, h1, h3, h4.trans hm⟩
      · have hlt : r < n := by
          rcases Nat.lt_or_ge r n with hh | hh
          · exact hh
          · exact absurd (hnewid r hh hr) hc
        obtain ⟨s1, s2, _⟩ := hother r hlt hc
        exact ⟨r, hlt, by rw [← s1]; exact hl, by rw [← s2]; exact hm⟩
    ids := fun r hr hf => by
      by_cases hc : C r
      · exact hids r hr hc hf
      · obtain ⟨s1, s2, s3, s4⟩ := hother r hr hc
        exact ⟨by rw [s1]; exact hf, s2, s3, s4⟩
    kept := fun r hr hf => by
      by_cases hc : C r
      · exact hkept r hr hc hf
      · rw [(hother r hr hc).1]; exact hf
    toks := fun r hr hw hw' h1 h2 => by
      by_cases hc : C r
      · exact htoks r hr hc hw hw' h1 h2
      · obtain ⟨s1, s2, s3, s4⟩ := hother r hr hc
        rw [s1, h1] at h2
        cases h2
        exact ⟨Nat.le_refl _, fun _ => ⟨s2, s3, s4⟩⟩
    maps := fun r hr es ver hg => by
      by_cases hc : C r
      · exact hmaps r hr hc es ver hg
      · obtain ⟨s1, _⟩ := hother r hr hc
        refine ⟨es, ver, by rw [s1]; exact hg, .inr ⟨rfl, rfl, ?_⟩⟩
        have hl : (get r).live = true := by rw [hg]; rfl
        refine hD _ (h.lt hr hl) fun hd => ?_
        obtain ⟨r0, h1, h2, h3, h4⟩ := hDimg _ (h.lt hr hl) hd
        have := h.inj r0 r h1 hr h3 hl h4
        exact hc (this ▸ h2)
    tape := htape
    os := hos
    output := hout }
  refine ⟨WR.step C h e ?_ ?_ ?_ ?_ hiter, e⟩
  · intro b o x hx
    by_cases hc : w.heap.size ≤ b ∨ D b
    · exact himm b o x hx hc
    · have h1 : g.I b o = some x := (hInew b o x hx).resolve_right hc
      have hb : b < w.heap.size := by
        rcases Nat.lt_or_ge b w.heap.size with hh | hh
        · exact hh
        · exact absurd (.inl hh) hc
      have := h.imm b o x h1
      unfold World.cell? at this ⊢
      rw [hD b hb (fun hd => hc (.inr hd))]; exact this
  · intro r hr hc
    obtain ⟨s1, s2, s3, s4⟩ := hother r hr hc
    refine ⟨s1, s2, s3, s4, fun hl => ?_⟩
    have hlt := h.lt hr hl
    have hnd : ¬ D (g.mu r) := fun hd => by
      obtain ⟨r0, h1, h2, h3, h4⟩ := hDimg _ hlt hd
      have := h.inj r0 r h1 hr h3 hl h4
      exact hc (this ▸ h2)
    refine ⟨hD _ hlt hnd, fun o x hx => ?_⟩
    rcases hInew _ o x hx with h1 | h1 | h1
    · exact h1
    · omega
    · exact absurd h1 hnd
  · intro r hr hc
    rcases hc with hc | hc
    · exact hblk e r hr hc
    · exact hblk e r hr (hnewid r hc hr)
  · intro r r' hr hr' hc hl hl' hm
    have hcr : C r := hc.elim id (fun hh => hnewid r hh hr)
    by_cases hc' : C r'
    · exact hinj r r' hr hr' hcr hc' hl hl' hm
    · have hlt : r' < n := by
        rcases Nat.lt_or_ge r' n with hh | hh
        · exact hh
        · exact absurd (hnewid r' hh hr') hc'
      obtain ⟨s1, s2, _⟩ := hother r' hlt hc'
      rw [s1] at hl'
      have hlt' := h.lt hlt hl'
      rw [s2] at hm
      rcases hmu r hr hcr hl with h1 | ⟨r0, h1, h2, h3, h4⟩
      · omega
      · have := h.inj r0 r' h1 hlt h3 hl' (h4.trans hm)
        exact absurd (this ▸ h2) hc'

/-- One block is otherwise. -/
def upd (get : Nat → Blk) (r : Nat) (b : Blk) : Nat → Blk := fun j => if j = r then b else get j
theorem upd_same (get : Nat → Blk) (r : Nat) (b : Blk) : upd get r b r = b := if_pos rfl
theorem upd_ne (get : Nat → Blk) {r j : Nat} (b : Blk) (h : j ≠ r) : upd get r b j = get j := if_neg h

def G.put (g : G) (r m b t : Nat) : G where
  I := g.I
  mu j := if j = r then m else g.mu j
  base j := if j = r then b else g.base j
  ts j := if j = r then t else g.ts j

/-- A number for a new block. -/
def Fresh (get : Nat → Blk) (n nid : Nat) : Prop := nid ≤ n ∧ (nid < n → get nid = .resv)

/-- A new block. -/
theorem WR.new {g : G} {get : Nat → Blk} {n : Nat} {w : World} (h : WR g get n w) {nid : Nat} (hf : Fresh get n nid) (o : Obj) (b : Blk) (base ts : Nat)
    (hblk : Ext g get n w (g.put nid w.heap.size base ts) (upd get nid b) (max n (nid + 1)) (w.alloc o) → blkR (g.put nid w.heap.size base ts) (upd get nid b) (max n (nid + 1)) (w.alloc o) nid b) :
    WR (g.put nid w.heap.size base ts) (upd get nid b) (max n (nid + 1)) (w.alloc o) ∧ Ext g get n w (g.put nid w.heap.size base ts) (upd get nid b) (max n (nid + 1)) (w.alloc o) := by
  have hres : ∀ r, r < n → r = nid → get r = .resv := fun r hr e => by subst e; exact hf.2 hr
  refine WR.go (fun r => r = nid) (fun _ => False) h (Nat.le_max_left _ _) ?_ ?_ ?_ ?_ ?_ (Imm.le_refl _) (fun _ _ _ hx => .inl hx) ?_ ?_ ?_ ?_ ?_ ?_ ?_ rfl rfl rfl ?_ ?_
  · intro r _ hc; exact ⟨upd_ne _ _ hc, if_neg hc, if_neg hc, if_neg hc⟩
  · intro r h1 h2; have := hf.1; omega
  · exact alloc_size _ _
  · intro b hb _; exact alloc_old _ _ hb
  · intro _ _ hd; exact hd.elim
  · intro b o x hx hc
    rcases hc with hc | hc
    · have := h.imm b o x hx
      unfold World.cell? at this
      rw [Array.getElem?_eq_none hc] at this
      cases this
    · exact hc.elim
  · intro r hr hc hfm; rw [hres r hr hc] at hfm; cases hfm
  · intro r hr hc hk; exact absurd (hres r hr hc) hk
  · intro r hr hc hw hw' e; rw [hres r hr hc] at e; cases e
  · intro r _ hc _; subst hc; exact .inl (by simp [G.put])
  · intro r r' _ _ hc hc' _ _ _; rw [hc, hc']
  · intro r m ver left cur hr hc hg hcm es ver' _
    have hbl := h.blk r hr
    rw [hg] at hbl
    obtain ⟨m1, m2, _⟩ := hbl
    rw [hres m m1 hcm] at m2; cases m2
  · intro e r _ hc; subst hc; rw [upd_same]; exact hblk e
  · intro r hr hc es ver e; rw [hres r hr hc] at e; cases e

/-- New cells that no longer change. -/
def immAt (I : Imm) (b lo : Nat) (xs : List Value) : Imm := fun b' o => if b' = b ∧ lo ≤ o ∧ o < lo + xs.length then xs[o - lo]? else I b' o

theorem immAt_in {I : Imm} {b lo : Nat} {xs : List Value} {i : Nat} {x : Value} (h : xs[i]? = some x) : immAt I b lo xs b (lo + i) = some x := by
  have hi : i < xs.length := (List.getElem?_eq_some_iff.1 h).1
  unfold immAt
  rw [if_pos ⟨rfl, by omega, by omega⟩, show lo + i - lo = i by omega]; exact h

theorem immAt_le {I : Imm} {b lo : Nat} {xs : List Value} (h : ∀ o x, I b o = some x → lo ≤ o → o < lo + xs.length → xs[o - lo]? = some x) : I.le (immAt I b lo xs) := by
  intro b' o x hx
  unfold immAt
  split
  · rename_i hc; obtain ⟨rfl, h1, h2⟩ := hc; exact h o x hx h1 h2
  · exact hx

theorem immAt_cases {I : Imm} {b lo : Nat} {xs : List Value} {b' o : Nat} {x : Value} (h : immAt I b lo xs b' o = some x) : I b' o = some x ∨ (b' = b ∧ ∃ i, o = lo + i ∧ xs[i]? = some x) := by
  unfold immAt at h
  split at h
  · rename_i hc; exact .inr ⟨hc.1, o - lo, by omega, h⟩
  · exact .inl h

/-- A new row of cells that do not change. -/
theorem WR.imm_alloc {g : G} {get : Nat → Blk} {n : Nat} {w : World} (h : WR g get n w) (c : Array Value) (el : TypeId) :
    WR { g with I := immAt g.I w.heap.size 0 c.toList } get n (w.alloc (.cells c el)) ∧ Ext g get n w { g with I := immAt g.I w.heap.size 0 c.toList } get n (w.alloc (.cells c el)) := by
  have hno : ∀ o x, g.I w.heap.size o = some x → False := fun o x hx => by
    have := h.imm _ o x hx
    unfold World.cell? at this
    rw [Array.getElem?_eq_none (Nat.le_refl _)] at this
    cases this
  refine WR.go (fun _ => False) (fun _ => False) h (Nat.le_refl _) ?_ ?_ ?_ ?_ ?_ ?_ ?_ ?_ ?_ ?_ ?_ ?_ ?_ ?_ rfl rfl rfl ?_ ?_
  · intro r _ _; exact ⟨rfl, rfl, rfl, rfl⟩
  · intro r h1 h2; omega
  · exact alloc_size _ _
  · intro b hb _; exact alloc_old _ _ hb
  · intro _ _ hd; exact hd.elim
  · exact immAt_le fun o x hx => (hno o x hx).elim
  · intro b o x hx
    rcases immAt_cases hx with h1 | ⟨rfl, _⟩
    · exact .inl h1
    · exact .inr (.inl (Nat.le_refl _))
  · intro b o x hx hc
    rcases immAt_cases hx with h1 | ⟨rfl, i, rfl, hi⟩
    · rcases hc with hc | hc
      · have := h.imm b o x h1
        unfold World.cell? at this
        rw [Array.getElem?_eq_none hc] at this
        cases this
      · exact hc.elim
    · rw [Nat.zero_add, cell_new]; simpa using hi
  all_goals first
    | (intro r _ hc; exact hc.elim)
    | (intro r r' _ _ hc; exact hc.elim)
    | (intro r m ver left cur _ _ _ hc; exact hc.elim)
    | (intro _ r _ hc; exact hc.elim)

/-- A row is otherwise. -/
theorem WR.set_row {g : G} {get : Nat → Blk} {n : Nat} {w : World} (h : WR g get n w) {r k : Nat} {cs cs' : List V} (hr : r < n) (hg : get r = .row k cs) {c c' : Array Value} {el : TypeId}
    (hc : w.heap[g.mu r]? = some (.cells c el (0, 0))) (hs : c'.size = c.size) {w' : World} (hw : w'.heap = w.heap.setIfInBounds (g.mu r) (.cells c' el (0, 0))) (htape : w'.tape = w.tape) (hos : w'.os = w.os) (hout : w'.output = w.output)
    (hk : ∀ o, o < g.base r + k → c'[o]? = c[o]?) (hl : g.base r + cs'.length ≤ c.size)
    (hnew : ∀ (i : Nat) (v : V), cs'[i]? = some v → ∃ x, c'[g.base r + i]? = some x ∧ vr g.I (g.at get n) v x) :
    WR g (upd get r (.row k cs')) n w' ∧ Ext g get n w g (upd get r (.row k cs')) n w' := by
  have hb := h.blk r hr
  rw [hg] at hb
  obtain ⟨c0, e0, h1, h2, h3, h4, h5⟩ := hb
  rw [hc] at h1
  cases h1
  have hlt := heap_lt hc
  have hnc : w'.heap[g.mu r]? = some (.cells c' el (0, 0)) := by rw [hw]; simp [hlt]
  refine WR.go (fun j => j = r) (fun b => b = g.mu r) h (Nat.le_refl _) ?_ ?_ ?_ ?_ ?_ (Imm.le_refl _) (fun _ _ _ hx => .inl hx) ?_ ?_ ?_ ?_ ?_ ?_ ?_ htape hos hout ?_ ?_
  · intro j _ hj; exact ⟨upd_ne _ _ hj, rfl, rfl, rfl⟩
  · intro j h1 h2; omega
  · rw [hw]; simp
  · intro b _ hd; rw [hw, Array.getElem?_setIfInBounds_ne (Ne.symm hd)]
  · intro b _ hd; exact ⟨r, hr, rfl, by rw [hg]; rfl, hd.symm⟩
  · intro b o x hx hd
    have hx' := h.imm b o x hx
    rcases hd with hd | rfl
    · unfold World.cell? at hx'
      rw [Array.getElem?_eq_none hd] at hx'; cases hx'
    · have ho : o < g.base r + k := by
        rcases Nat.lt_or_ge o (g.base r + k) with hh | hh
        · exact hh
        · rw [h5 o hh] at hx; cases hx
      unfold World.cell? at hx' ⊢
      rw [hc] at hx'
      rw [hnc]
      simpa [hk o ho] using hx'
  · intro j _ hj _; subst hj; exact ⟨by rw [upd_same]; rfl, rfl, rfl, rfl⟩
  · intro j _ hj _; subst hj; rw [upd_same]; simp
  · intro j _ hj hw1 hw2 e1; subst hj; rw [hg] at e1; cases e1
  · intro j hj hjr _; subst hjr; exact .inr ⟨j, hr, rfl, by rw [hg]; rfl, rfl⟩
  · intro j j' _ _ hj hj' _ _ _; rw [hj, hj']
  · intro j m ver left cur _ _ _ hm es ver' he; subst hm; rw [upd_same] at he; cases he
  · intro e j _ hj
    subst hj
    rw [upd_same]
    refine ⟨c', el, hnc, by rw [hs]; exact h2, by rw [hs]; exact hl, fun i v hv => ?_, h5⟩
    obtain ⟨x, hx, hvr⟩ := hnew i v hv
    exact ⟨x, hx, e.vr hvr⟩
  · intro j _ hj es ver e1; subst hj; rw [hg] at e1; cases e1

end Go.Ae
