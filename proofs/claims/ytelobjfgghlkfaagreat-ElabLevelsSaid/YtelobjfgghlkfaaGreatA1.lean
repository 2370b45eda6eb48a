/- The abstract evaluator: definitions. -/
import GoSem.Step
set_option linter.all false
noncomputable section
namespace Go.Ae

/-- Who may append to an immutable slice: it is full; the token's holder; nobody. -/
inductive Own where
  | tight
  | tok (r e : Nat)
  | lock
  deriving Inhabited

/-- Abstract values. 'iptr', 'vs': a pointer to, a slice of cells that no longer change, told by what they hold. 'ze': a slice that is not nil, of no elements and no room. -/
inductive V where
  | bool (b : Bool)
  | int (k : IntKind) (n : Int)
  | str (s : ByteArray)
  | nilp
  | ptr (r off : Nat)
  | iptr (cells : List V)
  | nils
  | ze
  | vs (cells : List V) (len sz : Nat) (own : Own)
  | hs (r off len cap sz : Nat) (ex : Bool)
  | nilm
  | map (r : Nat)
  | fn (f : Fn) (first captured : List V)
  | nilf
  | iface (t : TypeId) (v : V)
  | nilif
  | agg (cells : List V)
  | tup (vs : List V)
  deriving Inhabited

/-- A tree of things at numbers. -/
inductive T (α : Type) where
  | lf
  | nd (x : α) (l r : T α)

instance {α : Type} : Inhabited (T α) := ⟨.lf⟩

/-- Blocks. A row: its first k cells are not written. ('resv': a number that is kept free: in proofs alone.) -/
inductive Blk where
  | row (k : Nat) (cells : List V)
  | tok (hw : Nat)
  | map (es : List (V × V)) (ver : Nat)
  | iter (m : Option Nat) (ver : Nat) (left : List (V × V)) (cur : Option (V × V))
  | loop (fn : FuncId) (regs : T V) (params : List Tmp) (assign body : Code) (pend : Option Code) (st : LoopState) (dfr : Nat)
  | dfr
  | gone
  | resv
  deriving Inhabited

variable {α : Type}

noncomputable def T.get (d : α) (t : T α) : Nat → α :=
  T.rec (fun _ => d) (fun x _ _ gl gr k => Nat.rec x (fun k _ => cond (Nat.beq (k % 2) 0) (gl (k / 2)) (gr (k / 2))) k) t

noncomputable def T.set (t : T α) : Nat → α → T α :=
  T.rec (fun _ _ => .lf) (fun x l r sl sr k v => Nat.rec (.nd v l r) (fun k _ => cond (Nat.beq (k % 2) 0) (.nd x (sl (k / 2) v) r) (.nd x l (sr (k / 2) v))) k) t

/-- One thing more, at the end (k: how many there are). -/
noncomputable def T.push (t : T α) : Nat → α → T α :=
  T.rec (fun _ v => .nd v .lf .lf) (fun x l r pl pr k v => Nat.rec (.nd x l r) (fun k _ => cond (Nat.beq (k % 2) 0) (.nd x (pl (k / 2) v) r) (.nd x l (pr (k / 2) v))) k) t

/-- n things d. -/
def T.fill (d : α) : Nat → Nat → T α
  | 0, _ => .lf
  | f + 1, n => match n with
    | 0 => .lf
    | m + 1 => .nd d (T.fill d f ((m + 1) / 2)) (T.fill d f (m / 2))

/-- Blocks: how many; those that were changed. -/
structure H where
  t : T Blk
  n : Nat
  dirty : List Nat
  deriving Inhabited

def H.get (h : H) (r : Nat) : Blk := h.t.get .gone r
def H.set (h : H) (r : Nat) (b : Blk) : H := { h with t := h.t.set r b, dirty := r :: h.dirty }
def H.new (h : H) (b : Blk) : H := { h with t := h.t.push h.n b, n := h.n + 1 }
def H.empty : H := { t := .lf, n := 0, dirty := [] }

inductive D where
  | call (f : FuncId) (captured args : List V)
  | mark (r : Nat)
  deriving Inhabited

structure St where
  regs : T V
  dfs : List D
  h : H
  deriving Inhabited

inductive Ex where
  | normal
  | exit (id : Nat)
  | ret
  | pan (v : V)
  deriving Inhabited

/-- What a call comes to: it returns, or it panics. -/
inductive R where
  | ret (v : V)
  | pan (v : V)
  deriving Inhabited

def undefV : V := .tup []

def V.cells : V → List V
  | .agg cs => cs
  | v => [v]

/-- A value of one cell. -/
def V.one : V → Bool
  | .agg _ | .tup _ => false
  | _ => true

def V.ones : List V → Bool
  | [] => true
  | v :: l => v.one && V.ones l

mutual
def ofValue : Value → Option V
  | .bool b => some (.bool b)
  | .int k n => some (.int k n)
  | .string s => some (.str s)
  | .pointer none => some .nilp
  | .slice none 0 0 => some .nils
  | .map none => some .nilm
  | .nilFunc => some .nilf
  | .nilIface => some .nilif
  | .agg cs => (ofValues cs.toList).map .agg
  | .tuple cs => (ofValues cs.toList).map .tup
  | _ => none
def ofValues : List Value → Option (List V)
  | [] => some []
  | v :: vs => match ofValue v, ofValues vs with
    | some a, some as => some (a :: as)
    | _, _ => none
end

mutual
/-- No reference to a block (what lies within an immutable slice has none). -/
def V.pure : V → Bool
  | .bool _ | .int _ _ | .str _ | .nilp | .nils | .ze | .nilm | .nilf | .nilif => true
  | .vs _ _ _ (.tok _ _) => false
  | .vs _ _ _ _ => true
  | .iptr _ => true
  | .iface _ v => V.pure v
  | .agg cs => V.pures cs
  | .tup cs => V.pures cs
  | .fn f a b => (match f with | .yield _ => false | _ => true) && V.pures a && V.pures b
  | _ => false
def V.pures : List V → Bool
  | [] => true
  | v :: l => V.pure v && V.pures l
end

mutual
/-- The right to append is given up. -/
def V.shut : V → V
  | .vs cs n sz (.tok _ _) => .vs cs n sz .lock
  | .iface t v => .iface t (V.shut v)
  | .agg cs => .agg (V.seals cs)
  | .tup cs => .tup (V.seals cs)
  | .fn f a b => .fn f (V.seals a) (V.seals b)
  | v => v
def V.seals : List V → List V
  | [] => []
  | v :: l => V.shut v :: V.seals l
end

def fnShift (n : Nat) : Fn → Fn
  | .yield l => .yield (n + l)
  | f => f

mutual
/-- The numbers of blocks, n further on. -/
def V.shift (n : Nat) : V → V
  | .ptr r off => .ptr (n + r) off
  | .vs cs len sz (.tok r e) => .vs cs len sz (.tok (n + r) e)
  | .hs r off len cap sz ex => .hs (n + r) off len cap sz ex
  | .map r => .map (n + r)
  | .iface t v => .iface t (V.shift n v)
  | .agg cs => .agg (V.shifts n cs)
  | .tup cs => .tup (V.shifts n cs)
  | .fn f a b => .fn (fnShift n f) (V.shifts n a) (V.shifts n b)
  | v => v
def V.shifts (n : Nat) : List V → List V
  | [] => []
  | v :: l => V.shift n v :: V.shifts n l
end

def shiftEs (n : Nat) : List (V × V) → List (V × V)
  | [] => []
  | (k, v) :: l => (k.shift n, v.shift n) :: shiftEs n l

def Blk.shift (n : Nat) : Blk → Blk
  | .row k cs => .row k (V.shifts n cs)
  | .map es ver => .map (shiftEs n es) ver
  | .tok hw => .tok hw
  | _ => .gone

/-- The blocks of a heap, shifted: those from i on, k of them. -/
def blksOf (h : H) (n : Nat) : Nat → Nat → List Blk
  | 0, _ => []
  | k + 1, i => (h.get i).shift n :: blksOf h n k (i + 1)

mutual
/-- The blocks to which a value refers. -/
def V.ids : V → List Nat
  | .ptr r _ => [r]
  | .vs _ _ _ (.tok r _) => [r]
  | .hs r _ _ _ _ _ => [r]
  | .map r => [r]
  | .iface _ v => V.ids v
  | .agg cs => V.idss cs
  | .tup cs => V.idss cs
  | .fn f a b => (match f with | .yield l => [l] | _ => []) ++ (V.idss a ++ V.idss b)
  | _ => []
def V.idss : List V → List Nat
  | [] => []
  | v :: l => V.ids v ++ V.idss l
end

def esIds : List (V × V) → List Nat
  | [] => []
  | (k, v) :: l => V.ids k ++ (V.ids v ++ esIds l)

def Blk.ids : Blk → List Nat
  | .row _ cs => V.idss cs
  | .map es _ => esIds es
  | .iter (some m) _ left cur => m :: (esIds left ++ match cur with | some (k, v) => V.ids k ++ V.ids v | none => [])
  | _ => []

/-- Blocks that a call may come to where the order is drawn. -/
def Blk.plain : Blk → Bool
  | .loop _ _ _ _ _ _ _ _ | .dfr | .resv => false
  | _ => true

/-- The blocks to which one comes from some. -/
def reach (get : Nat → Blk) : Nat → List Nat → List Nat → Option (List Nat)
  | 0, _, _ => none
  | _ + 1, [], seen => some seen
  | f + 1, r :: work, seen => if seen.contains r then reach get f work seen else if (get r).plain then reach get f ((get r).ids ++ work) (r :: seen) else none

/-- A heap of some blocks. -/
def H.only (get : Nat → Blk) (n : Nat) (rs : List Nat) : H := { n := n, dirty := [], t := rs.foldl (fun t r => t.set r (get r)) (T.fill .resv 20 n) }

/-- The blocks from n on, k of them. -/
def H.from (h : H) : Nat → Nat → List Blk
  | 0, _ => []
  | k + 1, n => h.get n :: H.from h k (n + 1)

variable (P : Program)

def und (t : TypeId) : TypeDesc := (P.underlying t).getD .invalid
def szOf (t : TypeId) : Nat := ((P.info? t).map (·.size)).getD 0
def bytesOf (t : TypeId) : Nat := ((P.info? t).map (·.bytes)).getD 0
def zeroOf (t : TypeId) : Option V := ((P.info? t).bind (·.zero)).bind ofValue
/-- The type is there; what it comes down to; its zero value. -/
def okT (t : TypeId) : Bool := (P.info? t).isSome
def okU (t : TypeId) : Bool := (P.underlying t).isSome
def okZ (t : TypeId) : Bool := match (P.info? t).bind (·.zero) with | some z => z.cells.size == szOf P t | none => false
/-- m elements have room. -/
def roomOk (t : TypeId) (m : Nat) : Prop := m * bytesOf P t ≤ 2 ^ 40 ∧ m ≤ 2 ^ 40
instance (t : TypeId) (m : Nat) : Decidable (roomOk P t m) := by unfold roomOk; exact inferInstance
def isAggT (t : TypeId) : Bool := match und P t with | .struct _ | .array _ _ => true | _ => false

def rd (regs : T V) : Operand → Option V
  | .tmp t => some (regs.get undefV t)
  | .const v => ofValue v
  | .func f => some (.fn (.func f) [] [])
  | .global _ => none

def rds (regs : T V) : List Operand → Option (List V)
  | [] => some []
  | x :: xs => match rd regs x, rds regs xs with
    | some v, some vs => some (v :: vs)
    | _, _ => none

def splice (cells new : List V) (off : Nat) : Option (List V) :=
  if off + new.length ≤ cells.length then some (cells.take off ++ new ++ cells.drop (off + new.length)) else none

def loadV (t : TypeId) (cells : List V) : Option V :=
  if isAggT P t then (if szOf P t ≤ cells.length then some (.agg (cells.take (szOf P t))) else none)
  else if okU P t then cells.head? else none

def fillV (place : Nat → Option (Nat × Nat)) (cells : List V) : List (Nat × V) → Option (List V)
  | [] => some cells
  | (i, v) :: rest => match place i with
    | none => none
    | some (off, size) => if v.cells.length = size then
        match splice cells v.cells off with | some cs => fillV place cs rest | none => none
      else none

def repl (z : List V) : Nat → List V
  | 0 => []
  | n + 1 => z ++ repl z n

def rdParts (regs : T V) : List (Nat × Operand) → Option (List (Nat × V))
  | [] => some []
  | (i, x) :: xs => match rd regs x, rdParts regs xs with
    | some v, some vs => some ((i, v) :: vs)
    | _, _ => none

def build (t : TypeId) (parts : List (Nat × V)) : Option V :=
  match zeroOf P t with
  | none => none
  | some z => match und P t with
    | .struct fs => if fs.toList.all (fun f => okT P f.type) then (fillV (fun i => fs.toList[i]?.map fun f => (f.offset, szOf P f.type)) z.cells parts).map .agg else none
    | .array _ e => if okT P e then (fillV (fun i => some (i * szOf P e, szOf P e)) z.cells parts).map .agg else none
    | _ => none

/-- The cells of a literal slice. -/
def litCells (t : TypeId) (len : Nat) (parts : List (Nat × V)) : Option (List V × Nat) :=
  match und P t with
  | .slice e =>
    if len * szOf P e ≤ 2 ^ 24 ∧ okT P e = true then
      match (if len * szOf P e = 0 then some [] else (zeroOf P e).bind fun z => if z.cells.length = szOf P e then some (repl z.cells len) else none) with
      | none => none
      | some zs => (fillV (fun i => some (i * szOf P e, szOf P e)) zs parts).map fun cs => (cs, szOf P e)
    else none
  | _ => none

def asI : V → Option Int
  | .int _ n => some n
  | _ => none

/-- What an operation does: its value; the blocks that it looks at, that it changes; the blocks that it makes. -/
structure Eff where
  v : V
  rd : List Nat := []
  wr : List (Nat × Blk) := []
  nw : List Blk := []
  pan : Bool := false

/-- The cells of a slice, its length, and the block that is looked at. -/
def sliceCells (get : Nat → Blk) : V → Option (List V × Nat × List Nat)
  | .nils => some ([], 0, [])
  | .vs cs len _ _ => some (cs, len, [])
  | .hs r off len _ sz _ => match get r with
    | .row _ cs => if off + len * sz ≤ cs.length then some ((cs.drop off).take (len * sz), len, [r]) else none
    | _ => none
  | _ => none

/-- append: s of element type e, n > 0 elements; nid: the number of a new block; rs: what has been looked at. -/
def appendV (heapMode : Bool) (get : Nat → Blk) (nid : Nat) (e : TypeId) (s : V) (new : List V) (n : Nat) (rs : List Nat) : Option Eff :=
  let sz := szOf P e
  let news := V.seals new
  let pure := V.pures news
  if okZ P e = false then none else
  let asVal (cs : List V) (len : Nat) : Option Eff :=
    some { v := .vs (cs ++ news) (len + n) sz (.tok nid (len + n)), rd := rs, nw := [.tok (len + n)] }
  let asRow (cs : List V) (len : Nat) (rs : List Nat) : Option Eff :=
    some { v := .hs nid 0 (len + n) (len + n) sz false, rd := rs, nw := [.row 0 (cs ++ new)] }
  match s with
  | .nils => if roomOk P e n then (if pure && !heapMode then asVal [] 0 else asRow [] 0 rs) else none
  | .vs cs len sz' own => if sz' = sz ∧ roomOk P e (len + n) then match own with
    | .tight => if pure && !heapMode then asVal cs len else asRow cs len rs
    | .tok r e' => match get r with
      | .tok hw => if hw = e' then
          (if pure && !heapMode then some { v := .vs (cs ++ news) (len + n) sz (.tok r (e' + n)), rd := r :: rs, wr := [(r, .tok (e' + n))] }
           else some { v := .hs nid 0 (len + n) (len + n) sz false, rd := r :: rs, wr := [(r, .gone)], nw := [.row (len * sz) (cs ++ new)] })
        else none
      | _ => none
    | .lock => none
    else none
  | .hs r off len cap sz' ex => if sz' = sz ∧ roomOk P e (len + n) then match get r with
    | .row k cs =>
      if off + len * sz ≤ cs.length then
        if len + n ≤ cap then if k ≤ off + len * sz then match splice cs new (off + len * sz) with
          | some cs' => some { v := .hs r off (len + n) cap sz ex, rd := r :: rs, wr := [(r, .row k cs')] }
          | none => none
          else none
        else if ex then asRow ((cs.drop off).take (len * sz)) len (r :: rs)
        else if off + len * sz = cs.length ∧ k ≤ cs.length then
          some { v := .hs nid 0 (len + n) (len + n) sz false, rd := r :: rs, wr := [(r, .gone)], nw := [.row (k - off) (cs.drop off ++ new)] }
        else none
      else none
    | _ => none
    else none
  | _ => none

/-- Are two values of a type equal? -/
def eqV : Nat → TypeId → V → V → Option Bool
  | 0, _, _, _ => none
  | d + 1, t, x, y =>
    match und P t, x, y with
    | .bool, .bool a, .bool b => some (a == b)
    | .int _, .int k a, .int k' b => if k = k' then some (a == b) else none
    | .string, .str a, .str b => some (a.data.toList == b.data.toList)
    | .pointer _, .nilp, .nilp => some true
    | .pointer _, .nilp, .ptr _ _ | .pointer _, .ptr _ _, .nilp | .pointer _, .nilp, .iptr _ | .pointer _, .iptr _, .nilp => some false
    | .interface _, .nilif, .nilif => some true
    | .interface _, .nilif, .iface _ _ | .interface _, .iface _ _, .nilif => some false
    | .struct fs, .agg xs, .agg ys => if P.stoodInHeld t then none else
      fs.toList.foldr (fun f k => if f.name ≠ "_" then
          match loadV P f.type (xs.drop f.offset), loadV P f.type (ys.drop f.offset) with
          | some a, some b => match eqV d f.type a b with
            | some true => k
            | r => r
          | _, _ => none
        else k) (some true)
    | .slice _, .nils, .nils => some true
    | .slice _, .nils, .vs _ _ _ _ | .slice _, .nils, .hs _ _ _ _ _ _ | .slice _, .vs _ _ _ _, .nils | .slice _, .hs _ _ _ _ _ _, .nils => some false
    | .map _ _, .nilm, .nilm => some true
    | .map _ _, .nilm, .map _ | .map _ _, .map _, .nilm => some false
    | .func _ _ _, .nilf, .nilf => some true
    | .func _ _ _, .nilf, .fn _ _ _ | .func _ _ _, .fn _ _ _, .nilf => some false
    | _, _, _ => none

def intOp (op : BinOp) (k : IntKind) (a : Int) (k' : IntKind) (b : Int) : Option V :=
  match op with
  | .shl => if b < 0 then none else some (.int k (k.wrap (a * 2 ^ (min b.toNat k.bits))))
  | .shr => if b < 0 then none else some (.int k (a.fdiv (2 ^ (min b.toNat k.bits))))
  | .add => if k = k' then some (.int k (k.wrap (a + b))) else none
  | .sub => if k = k' then some (.int k (k.wrap (a - b))) else none
  | .mul => if k = k' then some (.int k (k.wrap (a * b))) else none
  | .quo => if k = k' ∧ b ≠ 0 then some (.int k (k.wrap (a.tdiv b))) else none
  | .rem => if k = k' ∧ b ≠ 0 then some (.int k (a.tmod b)) else none
  | .eql => if k = k' then some (.bool (a == b)) else none
  | .neq => if k = k' then some (.bool (a != b)) else none
  | .lss => if k = k' then some (.bool (a < b)) else none
  | .leq => if k = k' then some (.bool (a ≤ b)) else none
  | .gtr => if k = k' then some (.bool (a > b)) else none
  | .geq => if k = k' then some (.bool (a ≥ b)) else none
  | _ => none

def strOp (op : BinOp) (a b : ByteArray) : Option V :=
  match op with
  | .add => if ((a.size + b.size : Nat) : Int) > IntKind.i64.max then none else some (.str (a ++ b))
  | .eql => some (.bool (a.data.toList == b.data.toList))
  | .neq => some (.bool (!(a.data.toList == b.data.toList)))
  | .lss => some (.bool (Op.bytesLess a.data.toList b.data.toList))
  | .geq => some (.bool !(Op.bytesLess a.data.toList b.data.toList))
  | .leq => some (.bool (Op.bytesLess a.data.toList b.data.toList || a.data.toList == b.data.toList))
  | .gtr => some (.bool !(Op.bytesLess a.data.toList b.data.toList || a.data.toList == b.data.toList))
  | _ => none

/-- Two values that '==' may be asked of. -/
def guardOk (t : TypeId) (cx cy : Bool) (x y : V) : Bool :=
  match x, y with
  | .nilif, .nilif => cx || cy
  | .agg _, .agg _ => !P.eqGuardType P.depth t
  | _, _ => true

def binV (op : BinOp) (t : TypeId) (cx cy : Bool) (x y : V) : Option V :=
  match x, y with
  | .int k a, .int k' b => intOp op k a k' b
  | .str a, .str b => strOp op a b
  | x, y => if guardOk P t cx cy x y then match op with
    | .eql => (eqV P 100 t x y).map .bool
    | .neq => (eqV P 100 t x y).map fun b => .bool !b
    | _ => none
    else none

/-- A bound of a slice expression: what stands for it if it is left out; the greatest that it may be. -/
def bd1 (d : Option Nat) (y : Nat) (v : Option V) : Option Nat :=
  match v with
  | none => d
  | some v => match asI v with
    | some i => if 0 ≤ i ∧ i ≤ y then some i.toNat else none
    | none => none

/-- Bounds of a slice expression: low, high, the greatest end; the operand's length and the capacity that is known. -/
def sliceBds (len cap : Nat) (lo hi mx : Option V) : Option (Nat × Nat × Nat) :=
  match bd1 (some cap) cap mx with
  | none => none
  | some m => match bd1 (if mx.isSome then none else some len) m hi with
    | none => none
    | some h => match bd1 (some 0) h lo with
      | none => none
      | some l => some (l, h, m)

def sliceV (t : TypeId) (x : V) (lo hi mx : Option V) : Option V :=
  match und P t, x with
  | .string, .str s => if mx.isSome then none else match sliceBds s.size s.size lo hi none with
    | some (l, h, _) => some (.str (s.extract l h))
    | none => none
  | .slice e, .nils => if okT P e then match sliceBds 0 0 lo hi mx with
    | some _ => some .nils
    | none => none
    else none
  | .slice e, .vs cs len sz own => if szOf P e = sz ∧ okT P e = true then match sliceBds len len lo hi mx with
    | some (l, h, m) =>
      let own' : Own := if mx.isSome then (if m = h then .tight else .lock) else if h = len then (match own with
        | .tight => .tight
        | .tok r e => if l < h then .tok r e else .lock
        | .lock => .lock) else .lock
      some (.vs ((cs.drop (l * sz)).take ((h - l) * sz)) (h - l) sz own')
    | none => none
    else none
  | .slice e, .hs r off len cap sz ex => if szOf P e = sz ∧ okT P e = true then match sliceBds len cap lo hi mx with
    | some (l, h, m) => if m = l then some (.vs [] 0 sz .lock) else some (.hs r (off + l * sz) (h - l) (m - l) sz (ex || mx.isSome))
    | none => none
    else none
  | _, _ => none

def fieldOf (s : TypeId) (f : Nat) : Option Field := match und P s with | .struct fs => fs.toList[f]? | _ => none

def addrAdd (p : V) (n : Nat) : Option V :=
  match p with
  | .ptr r off => some (.ptr r (off + n))
  | .iptr cs => if n ≤ cs.length then some (.iptr (cs.drop n)) else none
  | _ => none

def indexAddr (t : TypeId) (x i : V) : Option V :=
  match asI i with
  | none => none
  | some i => match und P t, x with
    | .array len e, p => if 0 ≤ i ∧ i < len ∧ okT P e = true then addrAdd p (i.toNat * szOf P e) else none
    | .slice e, .vs cs len _ _ => if 0 ≤ i ∧ i < len ∧ okT P e = true then some (.iptr (cs.drop (i.toNat * szOf P e))) else none
    | .slice e, .hs r off len _ _ _ => if 0 ≤ i ∧ i < len ∧ okT P e = true then some (.ptr r (off + i.toNat * szOf P e)) else none
    | _, _ => none

/-- A scalar, of its type. -/
def scalarOk (d : TypeDesc) (v : V) : Bool :=
  match d, v with
  | .int _, .int _ _ => true
  | .string, .str _ => true
  | .bool, .bool _ => true
  | _, _ => false

def fieldsOk : List Field → Nat → List V → Bool
  | [], _, [] => true
  | f :: fs, i, v :: vs => Nat.beq f.offset i && decide (f.name ≠ "_") && scalarOk (und P f.type) v && fieldsOk fs (i + 1) vs
  | _, _, _ => false

/-- A key that can be held against others: a number, a text, or a struct of these. -/
def keyOk (t : TypeId) (v : V) : Bool :=
  match und P t, v with
  | .struct fs, .agg cs => fieldsOk P fs.toList 0 cs
  | d, v => scalarOk d v

/-- Scalars, and aggregates of these, that are the same. -/
def sameScalar : V → V → Bool
  | .int k a, .int k' b => decide (k = k') && decide (a = b)
  | .str a, .str b => decide (a.data.toList = b.data.toList)
  | .bool a, .bool b => a == b
  | _, _ => false

def sameScalars : List V → List V → Bool
  | [], [] => true
  | a :: as, b :: bs => sameScalar a b && sameScalars as bs
  | _, _ => false

def sameKey : V → V → Bool
  | .agg a, .agg b => sameScalars a b
  | a, b => sameScalar a b

def findV (k : TypeId) (key : V) : List (V × V) → Nat → Option (Option (Nat × V))
  | [], _ => some none
  | (x, v) :: es, i => match eqV P 100 k key x with
    | some true => some (some (i, v))
    | some false => findV k key es (i + 1)
    | none => none

def mapOf (get : Nat → Blk) : V → Option (List (V × V) × List Nat)
  | .nilm => some ([], [])
  | .map r => match get r with | .map es _ => some (es, [r]) | _ => none
  | _ => none

def lookup (get : Nat → Blk) (t : TypeId) (m k : V) (ok : Bool) : Option Eff :=
  match und P t, mapOf get m with
  | .map kt e, some (es, rs) => if keyOk P kt k then match findV P kt k es 0 with
      | some (some (_, v)) => some { v := if ok then .tup [v, .bool true] else v, rd := rs }
      | some none => match zeroOf P e with
        | some z => some { v := if ok then .tup [z, .bool false] else z, rd := rs }
        | none => none
      | none => none
    else none
  | _, _ => none

def mapUpdate (get : Nat → Blk) (t : TypeId) (m k v : V) : Option Eff :=
  match und P t, m with
  | .map kt _, .map r => if keyOk P kt k then match get r with
      | .map es ver => match findV P kt k es 0 with
        | some (some (i, _)) => match es[i]? with
          | some (k', _) => if sameKey k k' then some { v := undefV, rd := [r], wr := [(r, .map (es.set i (k, v)) (ver + 1))] } else none
          | none => none
        | some none => some { v := undefV, rd := [r], wr := [(r, .map (es ++ [(k, v)]) (ver + 1))] }
        | none => none
      | _ => none
    else none
  | _, _ => none

def minmax (mx : Bool) : V → List V → Option V
  | x, [] => some x
  | .int k x, .int _ y :: rest => minmax mx (.int k (if mx then (if x < y then y else x) else (if y < x then y else x))) rest
  | _, _ => none

def rdo (regs : T V) : Option Operand → Option (Option V)
  | none => some none
  | some x => match rd regs x with | some v => some (some v) | none => none

/-- A method of a pointer type that it has by itself. -/
def methodOf (t : TypeId) (name : String) : Option FuncId :=
  match (P.info? t).bind fun i => i.methods.toList.find? (·.name == name) with
  | some m => match m.path.toList, m.func, und P t with
    | [], some (f, true), .pointer _ => some f
    | _, _, _ => none
  | none => none

def val (x : Option V) : Option Eff := match x with | some v => some { v } | none => none

def lenV (get : Nat → Blk) (t : TypeId) (x : V) : Option Eff :=
  match und P t, x with
  | .string, .str s => some { v := .int .i64 s.size }
  | .array n _, _ => some { v := .int .i64 n }
  | .slice _, .nils => some { v := .int .i64 0 }
  | .slice _, .ze => some { v := .int .i64 0 }
  | .slice _, .vs _ n _ _ => some { v := .int .i64 n }
  | .slice _, .hs _ _ n _ _ _ => some { v := .int .i64 n }
  | .map _ _, m => match mapOf get m with
    | some (es, rs) => some { v := .int .i64 es.length, rd := rs }
    | none => none
  | _, _ => none

def builtinV (heapMode : Bool) (get : Nat → Blk) (nid : Nat) (b : Builtin) (ts : List TypeId) (args : List V) : Option Eff :=
  match b with
  | .len => match ts, args with
    | [t], [x] => lenV P get t x
    | _, _ => none
  | .append => match ts, args with
    | [t, u], [s, x] => match und P t, und P u with
      | .slice _, .int _ => none
      | .slice e, _ => if okU P u = false ∨ okZ P e = false then none else match sliceCells get x with
        | some (cs, n, rs) => if V.ones cs = false ∨ cs.length ≠ n * szOf P e then none else if n = 0 then (match s with | .nils | .vs _ _ _ _ | .hs _ _ _ _ _ _ => some { v := s, rd := rs } | _ => none) else appendV P heapMode get nid e s cs n rs
        | none => none
      | _, _ => none
    | _, _ => none
  | .max => match args with
    | x :: xs => val (minmax true x xs)
    | _ => none
  | .min => match args with
    | x :: xs => val (minmax false x xs)
    | _ => none
  | _ => none

/-- An operation, laid open: it wants the temporaries, the blocks, the number of a new one. (A structure, so that the kernel lays it open once.) -/
structure X where
  run : T V → (Nat → Blk) → Nat → Option Eff

def X.no : X := ⟨fun _ _ _ => none⟩

/-- Operands, laid open. -/
def rd2 (regs : T V) (x y : Operand) (k : V → V → Option Eff) : Option Eff :=
  match rd regs x, rd regs y with
  | some a, some b => k a b
  | _, _ => none

def rd1 (regs : T V) (x : Operand) (k : V → Option Eff) : Option Eff :=
  match rd regs x with
  | some a => k a
  | none => none

def xPick (c a b : V) : Option Eff := match c with | .bool c => some { v := if c then a else b } | _ => none
def xLoad (t : TypeId) (get : Nat → Blk) (p : V) : Option Eff :=
  match p with
  | .iptr cs => val (loadV P t cs)
  | .ptr r off => match get r with
    | .row _ cs => if off ≤ cs.length then match loadV P t (cs.drop off) with
        | some v => some { v, rd := [r] }
        | none => none
      else none
    | _ => none
  | _ => none
def xStore (t : TypeId) (get : Nat → Blk) (p x : V) : Option Eff :=
  match p with
  | .ptr r off => match get r with
    | .row k cs => if k ≤ off ∧ x.cells.length = szOf P t ∧ V.ones x.cells = true then match splice cs x.cells off with
        | some cs' => some { v := undefV, rd := [r], wr := [(r, .row k cs')] }
        | none => none
      else none
    | _ => none
  | _ => none
def xNilCheck (x : V) : Option Eff :=
  match x with
  | .ptr r o => some { v := .ptr r o }
  | .iptr cs => some { v := .iptr cs }
  | .fn (.func f) a b => some { v := .fn (.func f) a b }
  | .fn (.method name) (.iface t x :: a) b => match methodOf P t name with
    | some _ => some { v := .fn (.method name) (.iface t x :: a) b }
    | none => none
  | _ => none
def xUn (op : UnOp) (x : V) : Option Eff :=
  match op, x with
  | .not, .bool b => some { v := .bool !b }
  | .neg, .int k n => some { v := .int k (k.wrap (0 - n)) }
  | _, _ => none
def xConv (d : TypeDesc) (x : V) : Option Eff :=
  match d, x with
  | .int k, .int _ n => some { v := .int k (k.wrap n) }
  | .string, .str b => some { v := .str b }
  | _, _ => none
def xLit (heapMode : Bool) (nid len : Nat) (cs : List V) (sz : Nat) : Option Eff :=
  if V.pures (V.seals cs) && !heapMode then some { v := .vs (V.seals cs) len sz .tight } else some { v := .hs nid 0 len len sz true, nw := [.row 0 cs] }
def xMake (e : TypeId) (nid : Nat) (l c : Int) : Option Eff :=
  if 0 ≤ l ∧ l ≤ c ∧ c ≤ 2 ^ 24 ∧ c * bytesOf P e ≤ 2 ^ 40 ∧ okT P e = true then
    match (if c.toNat * szOf P e = 0 then some [] else (zeroOf P e).bind fun z => if z.cells.length = szOf P e then some (repl z.cells c.toNat) else none) with
    | some zs => some { v := .hs nid 0 l.toNat c.toNat (szOf P e) true, nw := [.row 0 zs] }
    | none => none
  else none
def xIndex (d : TypeDesc) (x i : V) : Option Eff :=
  match d, x, i with
  | .array len e, .agg cs, .int _ i => if 0 ≤ i ∧ i < len ∧ okT P e = true then val (loadV P e (cs.drop (i.toNat * szOf P e))) else none
  | .string, .str b, .int _ i => if 0 ≤ i then val ((b.data.toList[i.toNat]?).map fun c => .int .u8 c.toNat) else none
  | _, _, _ => none
def xRange (get : Nat → Blk) (nid : Nat) (x : V) : Option Eff :=
  match x with
  | .nilm => some { v := .ptr nid 0, nw := [.iter none 0 [] none] }
  | .map m => match get m with
    | .map es ver => some { v := .ptr nid 0, rd := [m], nw := [.iter (some m) ver es none] }
    | _ => none
  | _ => none
def xEntry (get : Nat → Blk) (x : V) : Option Eff :=
  match x with
  | .ptr r 0 => match get r with
    | .iter (some m) ver _ (some (k, v)) => match get m with
      | .map _ ver' => if ver = ver' then some { v := .tup [k, v], rd := [r, m] } else none
      | _ => none
    | _ => none
  | _ => none
/-- A type that is no interface is asserted. -/
def xAssert (t : TypeId) (ok : Bool) (x : V) : Option Eff :=
  match und P t with
  | .interface _ | .invalid => none
  | _ => match x with
    | .iface t' v => if t' = t then some { v := if ok then .tup [v, .bool true] else v } else if ok then match zeroOf P t with
        | some z => some { v := .tup [z, .bool false] }
        | none => none
      else none
    | .nilif => if ok then match zeroOf P t with
        | some z => some { v := .tup [z, .bool false] }
        | none => none
      else none
    | _ => none
def xExtract (x : V) (i : Nat) : Option Eff := match x with | .tup vs => val (vs[i]?) | _ => none
def xField (f : Field) (x : V) : Option Eff := match x with | .agg cs => val (loadV P f.type (cs.drop f.offset)) | _ => none

/-- One operation that is no call of a function. -/
def exec (heapMode : Bool) (op : Op) : X :=
  match op with
  | .move x | .assign x => ⟨fun regs _ _ => rd1 regs x fun v => some { v }⟩
  | .pick c a b => ⟨fun regs _ _ => rd1 regs c fun c => rd2 regs a b fun a b => xPick c a b⟩
  | .alloc t => match zeroOf P t with
    | some z => ⟨fun _ _ nid => some { v := .ptr nid 0, nw := [.row 0 z.cells] }⟩
    | none => X.no
  | .box _ x => ⟨fun regs _ nid => rd1 regs x fun x => some { v := .ptr nid 0, nw := [.row 0 x.cells] }⟩
  | .build t ps => ⟨fun regs _ _ => match rdParts regs ps.toList with | some ps => val (build P t ps) | none => none⟩
  | .buildSlice t len ps => ⟨fun regs _ nid => match rdParts regs ps.toList with
    | some ps => match litCells P t len ps with
      | some (cs, sz) => xLit heapMode nid len cs sz
      | none => none
    | none => none⟩
  | .load t a => ⟨fun regs get _ => rd1 regs a fun a => xLoad P t get a⟩
  | .store t a x => if okT P t then ⟨fun regs get _ => rd2 regs a x fun a x => xStore P t get a x⟩ else X.no
  | .nilCheck x => ⟨fun regs _ _ => rd1 regs x fun x => xNilCheck P x⟩
  | .binOp op t x y _ => ⟨fun regs _ _ => rd2 regs x y fun a b => val (binV P op t (x matches .const _) (y matches .const _) a b)⟩
  | .unOp op _ x => ⟨fun regs _ _ => rd1 regs x fun x => xUn op x⟩
  | .convert src dst x => if okU P src then ⟨fun regs _ _ => rd1 regs x fun x => xConv (und P dst) x⟩ else X.no
  | .makeInterface t x => match und P t with
    | .interface _ => X.no
    | _ => if okU P t then ⟨fun regs _ _ => rd1 regs x fun v => some { v := .iface t v }⟩ else X.no
  | .makeFunc f first captured => match f with
    | .func g => ⟨fun regs _ _ => match rds regs first.toList, rds regs captured.toList with
      | some a, some b => some { v := .fn (.func g) a b }
      | _, _ => none⟩
    | .method name => ⟨fun regs _ _ => match rds regs first.toList, rds regs captured.toList with
      | some a, some b => some { v := .fn (.method name) a b }
      | _, _ => none⟩
    | _ => X.no
  | .makeMap _ none => ⟨fun _ _ nid => some { v := .map nid, nw := [.map [] 0] }⟩
  | .makeSlice t l c => match und P t with
    | .slice e => ⟨fun regs _ nid => rd2 regs l c fun l c => match asI l, asI c with
      | some l, some c => xMake P e nid l c
      | _, _ => none⟩
    | _ => X.no
  | .slice t x lo hi mx => ⟨fun regs _ _ => match rd regs x, rdo regs lo, rdo regs hi, rdo regs mx with
    | some x, some lo, some hi, some mx => val (sliceV P t x lo hi mx)
    | _, _, _, _ => none⟩
  | .fieldAddr t x f => match fieldOf P t f with
    | some f => if szOf P f.type = 0 then X.no else ⟨fun regs _ _ => rd1 regs x fun p => val (addrAdd p f.offset)⟩
    | none => X.no
  | .field t x f => match fieldOf P t f with
    | some f => ⟨fun regs _ _ => rd1 regs x fun x => xField P f x⟩
    | none => X.no
  | .indexAddr t x i => ⟨fun regs _ _ => rd2 regs x i fun x i => val (indexAddr P t x i)⟩
  | .index t x i => ⟨fun regs _ _ => rd2 regs x i fun x i => xIndex P (und P t) x i⟩
  | .lookup t m k ok => ⟨fun regs get _ => rd2 regs m k fun m k => lookup P get t m k ok⟩
  | .mapUpdate t m k x | .insert t m k x => ⟨fun regs get _ => rd1 regs m fun m => rd2 regs k x fun k x => mapUpdate P get t m k x⟩
  | .range t x => match und P t with
    | .map _ _ => ⟨fun regs get nid => rd1 regs x fun x => xRange get nid x⟩
    | _ => X.no
  | .entry x => ⟨fun regs get _ => rd1 regs x fun x => xEntry get x⟩
  | .typeAssert x _ t ok => ⟨fun regs _ _ => rd1 regs x fun x => xAssert P t ok x⟩
  | .extract x i => ⟨fun regs _ _ => rd1 regs x fun x => xExtract x i⟩
  | .call c => match c.callee with
    | .builtin b => ⟨fun regs get nid => match rds regs c.args.toList with
      | some args => builtinV P heapMode get nid b c.argTypes.toList args
      | none => none⟩
    | _ => X.no
  | _ => X.no

/-- Each entry of a list, with the others. -/
def picks : List (V × V) → List (V × V) → List ((V × V) × List (V × V))
  | _, [] => []
  | pre, x :: post => (x, pre.reverse ++ post) :: picks (x :: pre) post

/-- The next entry of a map: whichever. -/
def nextV (get : Nat → Blk) (x : V) : Option (List Eff) :=
  match x with
  | .ptr r 0 => match get r with
    | .iter none _ _ _ => some [{ v := .tup [.bool false], rd := [r] }]
    | .iter (some m) ver left _ => match get m with
      | .map _ ver' => if ver = ver' then (match left with
          | [] => some [{ v := .tup [.bool false], rd := [r, m] }]
          | _ => some ((picks [] left).map fun (e, left) => { v := .tup [.bool true, e.1, e.2], rd := [r, m], wr := [(r, .iter (some m) ver left (some e))] }))
        else none
      | _ => none
    | _ => none
  | _ => none

mutual
def V.beq : V → V → Bool
  | .bool a, .bool b => a == b
  | .int k a, .int k' b => decide (k = k') && decide (a = b)
  | .str a, .str b => decide (a.data.toList = b.data.toList)
  | .nilp, .nilp | .nils, .nils | .nilm, .nilm | .nilf, .nilf | .nilif, .nilif => true
  | .ptr r o, .ptr r' o' => Nat.beq r r' && Nat.beq o o'
  | .iptr a, .iptr b => V.beqs a b
  | .vs a n z o, .vs b n' z' o' => Nat.beq n n' && Nat.beq z z' && (match o, o' with
    | .tight, .tight | .lock, .lock => true
    | .tok r e, .tok r' e' => Nat.beq r r' && Nat.beq e e'
    | _, _ => false) && V.beqs a b
  | .hs r o l c z x, .hs r' o' l' c' z' x' => Nat.beq r r' && Nat.beq o o' && Nat.beq l l' && Nat.beq c c' && Nat.beq z z' && (x == x')
  | .map r, .map r' => Nat.beq r r'
  | .fn (.func f) a b, .fn (.func f') a' b' => Nat.beq f f' && V.beqs a a' && V.beqs b b'
  | .iface t v, .iface t' v' => Nat.beq t t' && V.beq v v'
  | .agg a, .agg b => V.beqs a b
  | .tup a, .tup b => V.beqs a b
  | _, _ => false
def V.beqs : List V → List V → Bool
  | [], [] => true
  | a :: as, b :: bs => V.beq a b && V.beqs as bs
  | _, _ => false
end

def Eff.same (a b : Eff) : Bool :=
  V.beq a.v b.v && (match a.rd, b.rd with | [], [] => true | _, _ => false) && (match a.wr, b.wr with | [], [] => true | _, _ => false) &&
  (match a.nw, b.nw with | [], [] => true | [.tok e], [.tok e'] => Nat.beq e e' | _, _ => false) && (a.pan == b.pan)

/-- Several that are one. -/
def oneOf : List Eff → List Eff
  | e :: e' :: l => if (e' :: l).all (Eff.same e) then [e] else e :: e' :: l
  | l => l

/-- A guard, laid open. -/
structure XW where
  run : T V → Bool

def wantX (ops : Array Oper) (o : Oper) : XW :=
  match o.guard with
  | none => ⟨fun _ => true⟩
  | some (j, want) => match (ops[j]?).bind (·.dst) with
    | none => ⟨fun _ => false⟩
    | some d => ⟨fun regs => match regs.get undefV d with
      | .bool b => b == want
      | _ => false⟩

def put (regs : T V) (dst : Option Tmp) (v : V) : T V := match dst with | some d => regs.set d v | none => regs

/-- What is called. -/
inductive Callee1 where
  | func (f : FuncId) (args : List V)
  | round (l : Nat) (args : List V)

/-- Calls, laid open. -/
structure XC where
  run : T V → Option Callee1

def calleeX (c : Call) : XC :=
  match c.callee with
  | .value f => ⟨fun regs => match rd regs f, rds regs c.args.toList with
    | some (.fn (.func g) first cap), some args => some (.func g (first ++ args ++ cap))
    | some (.fn (.yield l) [] []), some args => some (.round l args)
    | _, _ => none⟩
  | .invoke r name => ⟨fun regs => match rd regs r, rds regs c.args.toList with
    | some (.iface t v), some args => match methodOf P t name with
      | some g => some (.func g (v :: args))
      | none => none
    | _, _ => none⟩
  | .builtin _ => ⟨fun _ => none⟩

def deferV (regs : T V) (c : Call) : Option D :=
  match c.callee with
  | .value f => match rd regs f, rds regs c.args.toList with
    | some (.fn (.func g) first cap), some args => some (.call g cap (first ++ args))
    | _, _ => none
  | _ => none

/-- What the evaluator is told: nothing of it is trusted. -/
structure Hint where
  /-- calls whose blocks are kept -/
  heap : FuncId → Bool
  /-- slices that this function makes into this temporary lie in blocks -/
  rows : FuncId → Option Tmp → Bool
  /-- behind this region the slices to which these temporaries point are no longer written -/
  fix : FuncId → Nat → List Tmp

/-- A slice at the end of its row, no longer to be written: as an immutable one, with the right to append (a new block). -/
def fixAt (h : H) (p : V) : Option H :=
  match p with
  | .ptr r off => match h.get r with
    | .row k cs => match cs[off]? with
      | some (.hs r' off' len _ sz false) => if r' = r then none else match h.get r' with
        | .row k' ds => if off' + len * sz = ds.length ∧ k' ≤ ds.length ∧ V.pures (V.seals (ds.drop off')) = true then
            some (((h.set r (.row k (cs.set off (.vs (V.seals (ds.drop off')) len sz (.tok h.n len))))).set r' .gone).new (.tok len))
          else none
        | _ => none
      | _ => none
    | _ => none
  | _ => none

def fixAll (regs : T V) : List Tmp → H → Option H
  | [], h => some h
  | t :: ts, h => match fixAt h (regs.get undefV t) with
    | some h => fixAll regs ts h
    | none => none

def mapO (f : V → Option V) : List V → Option (List V)
  | [] => some []
  | v :: vs => match f v, mapO f vs with
    | some v, some vs => some (v :: vs)
    | _, _ => none

/-- A value that leaves a call whose blocks are dropped. -/
def freeze (h : H) : Nat → V → Option V
  | 0, _ => none
  | k + 1, v => match v with
    | .hs r off len cap sz ex => match h.get r with
      | .row _ cs => if off + len * sz ≤ cs.length then
          match mapO (freeze h k) ((cs.drop off).take (len * sz)) with
          | some cs => some (.vs cs len sz (if ex && len == cap then .tight else .lock))
          | none => none
        else none
      | _ => none
    | .vs cs len sz (.tok _ _) => some (.vs cs len sz .lock)
    | .agg cs => (mapO (freeze h k) cs).map .agg
    | .tup cs => (mapO (freeze h k) cs).map .tup
    | v => if v.pure then some v else none

end Go.Ae
