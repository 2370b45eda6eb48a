/- The abstract evaluator: definitions. -/
import GoSem.Step
import Derived.CallsIn
import Derived.RangeFuncIn
import Derived.Laws.Cells
import Derived.Laws.CopyRow
set_option linter.all false
noncomputable section
namespace Go.Ae
section
section
inductive Own where
 |tight
 |tok (r e:Nat)
 |lock
 deriving Inhabited
inductive V where
 |bool (b:Bool)
 |int (k:IntKind) (n:Int)
 |str (s:ByteArray)
 |nilp
 |ptr (r off:Nat)
 |iptr (cells:List V)
 |nils
 |ze
 |vs (cells:List V) (len sz:Nat) (own:Own)
 |hs (r off len cap sz:Nat) (ex:Bool)
 |nilm
 |map (r:Nat)
 |fn (f:Fn) (first captured:List V)
 |nilf
 |iface (t:TypeId) (v:V)
 |nilif
 |agg (cells:List V)
 |tup (vs:List V)
 deriving Inhabited
inductive T (α:Type) where
 |lf
 |nd (x:α) (l r:T α)
instance {α:Type}:Inhabited (T α):=⟨.lf⟩
inductive Blk where
 |row (k:Nat) (cells:List V)
 |tok (hw:Nat)
 |map (es:List (V×V)) (ver:Nat)
 |iter (m:Option Nat) (ver:Nat) (left:List (V×V)) (cur:Option (V×V))
 |loop (fn:FuncId) (regs:T V) (params:List Tmp) (assign body:Code) (pend:Option Code) (st:LoopState) (dfr:Nat)
 |dfr
 |gone
 |resv
 deriving Inhabited
variable {α:Type}
def T.get (d:α) (t:T α):Nat→α:=
 T.rec (fun _=> d) (fun x _ _ gl gr k=> Nat.rec x (fun k _=> cond (Nat.beq (k % 2) 0) (gl (k / 2)) (gr (k / 2))) k) t
def T.set (t:T α):Nat→α→T α:=
 T.rec (fun _ _=> .lf) (fun x l r sl sr k v=> Nat.rec (.nd v l r) (fun k _=> cond (Nat.beq (k % 2) 0) (.nd x (sl (k / 2) v) r) (.nd x l (sr (k / 2) v))) k) t
def T.push (t:T α):Nat→α→T α:=
 T.rec (fun _ v=> .nd v .lf .lf) (fun x l r pl pr k v=> Nat.rec (.nd x l r) (fun k _=> cond (Nat.beq (k % 2) 0) (.nd x (pl (k / 2) v) r) (.nd x l (pr (k / 2) v))) k) t
def T.fill (d:α):Nat→Nat→T α
 |0,_=> .lf
 |f+1,n=> match n with
  |0=> .lf
  |m+1=> .nd d (T.fill d f ((m+1) / 2)) (T.fill d f (m / 2))
structure H where
 t:T Blk
 n:Nat
 dirty:List Nat
 deriving Inhabited
def H.get (h:H) (r:Nat):Blk:=h.t.get .gone r
def H.set (h:H) (r:Nat) (b:Blk):H:={h with t:=h.t.set r b,dirty:=r::h.dirty}
def H.new (h:H) (b:Blk):H:={h with t:=h.t.push h.n b,n:=h.n+1}
def H.empty:H:={t:=.lf,n:=0,dirty:=[]}
inductive D where
 |call (f:FuncId) (captured args:List V)
 |mark (r:Nat)
 deriving Inhabited
structure St where
 regs:T V
 dfs:List D
 h:H
 deriving Inhabited
inductive Ex where
 |normal
 |exit (id:Nat)
 |ret
 |pan (v:V)
 deriving Inhabited
inductive R where
 |ret (v:V)
 |pan (v:V)
 deriving Inhabited
def ZmM:V:=.tup []
def V.cells:V→List V
 |.agg cs=> cs
 |v=> [v]
def V.one:V→Bool
 |.agg _|.tup _=> false
 |_=> true
def V.ones:List V→Bool
 |[]=> true
 |v::l=> v.one && V.ones l
mutual
def ofValue:Value→Option V
 |.bool b=> some (.bool b)
 |.int k n=> some (.int k n)
 |.string s=> some (.str s)
 |.pointer none=> some .nilp
 |.slice none 0 0=> some .nils
 |.map none=> some .nilm
 |.nilFunc=> some .nilf
 |.nilIface=> some .nilif
 |.agg cs=> (ofValues cs.toList).map .agg
 |.tuple cs=> (ofValues cs.toList).map .tup
 |_=> none
def ofValues:List Value→Option (List V)
 |[]=> some []
 |v::vs=> match ofValue v,ofValues vs with
  |some a,some as=> some (a::as)
  |_,_=> none
end
mutual
def V.pure:V→Bool
 |.bool _|.int _ _|.str _|.nilp|.nils|.ze|.nilm|.nilf|.nilif=> true
 |.vs _ _ _ (.tok _ _)=> false
 |.vs _ _ _ _=> true
 |.iptr _=> true
 |.iface _ v=> V.pure v
 |.agg cs=> V.pures cs
 |.tup cs=> V.pures cs
 |.fn f a b=> (match f with|.yield _=> false|_=> true) && V.pures a && V.pures b
 |_=> false
def V.pures:List V→Bool
 |[]=> true
 |v::l=> V.pure v && V.pures l
end
mutual
def V.shut:V→V
 |.vs cs n sz (.tok _ _)=> .vs cs n sz .lock
 |.iface t v=> .iface t (V.shut v)
 |.agg cs=> .agg (V.seals cs)
 |.tup cs=> .tup (V.seals cs)
 |.fn f a b=> .fn f (V.seals a) (V.seals b)
 |v=> v
def V.seals:List V→List V
 |[]=> []
 |v::l=> V.shut v::V.seals l
end
def ZIO (n:Nat):Fn→Fn
 |.yield l=> .yield (n+l)
 |f=> f
mutual
def V.shift (n:Nat):V→V
 |.ptr r off=> .ptr (n+r) off
 |.vs cs len sz (.tok r e)=> .vs cs len sz (.tok (n+r) e)
 |.hs r off len cap sz ex=> .hs (n+r) off len cap sz ex
 |.map r=> .map (n+r)
 |.iface t v=> .iface t (V.shift n v)
 |.agg cs=> .agg (V.shifts n cs)
 |.tup cs=> .tup (V.shifts n cs)
 |.fn f a b=> .fn (ZIO n f) (V.shifts n a) (V.shifts n b)
 |v=> v
def V.shifts (n:Nat):List V→List V
 |[]=> []
 |v::l=> V.shift n v::V.shifts n l
end
def ZFD (n:Nat):List (V×V)→List (V×V)
 |[]=> []
 |(k,v)::l=> (k.shift n,v.shift n)::ZFD n l
def Blk.shift (n:Nat):Blk→Blk
 |.row k cs=> .row k (V.shifts n cs)
 |.map es ver=> .map (ZFD n es) ver
 |.tok hw=> .tok hw
 |_=> .gone
def ZDe (h:H) (n:Nat):Nat→Nat→List Blk
 |0,_=> []
 |k+1,i=> (h.get i).shift n::ZDe h n k (i+1)
mutual
def V.ids:V→List Nat
 |.ptr r _=> [r]
 |.vs _ _ _ (.tok r _)=> [r]
 |.hs r _ _ _ _ _=> [r]
 |.map r=> [r]
 |.iface _ v=> V.ids v
 |.agg cs=> V.idss cs
 |.tup cs=> V.idss cs
 |.fn f a b=> (match f with|.yield l=> [l]|_=> [])++(V.idss a++V.idss b)
 |_=> []
def V.idss:List V→List Nat
 |[]=> []
 |v::l=> V.ids v++V.idss l
end
def ZEC:List (V×V)→List Nat
 |[]=> []
 |(k,v)::l=> V.ids k++(V.ids v++ZEC l)
def Blk.ids:Blk→List Nat
 |.row _ cs=> V.idss cs
 |.map es _=> ZEC es
 |.iter (some m) _ left cur=> m::(ZEC left++match cur with|some (k,v)=> V.ids k++V.ids v|none=> [])
 |_=> []
def Blk.plain:Blk→Bool
 |.loop _ _ _ _ _ _ _ _|.dfr|.resv=> false
 |_=> true
def reach (get:Nat→Blk):Nat→List Nat→List Nat→Option (List Nat)
 |0,_,_=> none
 |_+1,[],seen=> some seen
 |f+1,r::work,seen=> if seen.contains r then reach get f work seen else if (get r).plain then reach get f ((get r).ids++work) (r::seen) else none
def H.only (get:Nat→Blk) (n:Nat) (rs:List Nat):H:={n:=n,dirty:=[],t:=rs.foldl (fun t r=> t.set r (get r)) (T.fill .resv 20 n)}
def H.from (h:H):Nat→Nat→List Blk
 |0,_=> []
 |k+1,n=> h.get n::H.from h k (n+1)
variable (P:Program)
def und (t:TypeId):TypeDesc:=(P.underlying t).getD .invalid
def ZmI (t:TypeId):Nat:=((P.info? t).map (·.size)).getD 0
def bytesOf (t:TypeId):Nat:=((P.info? t).map (·.bytes)).getD 0
def zeroOf (t:TypeId):Option V:=((P.info? t).bind (·.zero)).bind ofValue
def okT (t:TypeId):Bool:=(P.info? t).isSome
def okU (t:TypeId):Bool:=(P.underlying t).isSome
def okZ (t:TypeId):Bool:=match (P.info? t).bind (·.zero) with|some z=> z.cells.size==ZmI P t|none=> false
def ZD4 (t:TypeId) (m:Nat):Prop:=m * bytesOf P t≤2 ^ 40∧m≤2 ^ 40
instance (t:TypeId) (m:Nat):Decidable (ZD4 P t m):=by unfold ZD4;exact inferInstance
def ZDM (t:TypeId):Bool:=match und P t with|.struct _|.array _ _=> true|_=> false
def rd (regs:T V):Operand→Option V
 |.tmp t=> some (regs.get ZmM t)
 |.const v=> ofValue v
 |.func f=> some (.fn (.func f) [] [])
 |.global _=> none
def rds (regs:T V):List Operand→Option (List V)
 |[]=> some []
 |x::xs=> match rd regs x,rds regs xs with
  |some v,some vs=> some (v::vs)
  |_,_=> none
def splice (cells new:List V) (off:Nat):Option (List V):=
 if off+new.length≤cells.length then some (cells.take off++new++cells.drop (off+new.length)) else none
def ZCC (t:TypeId) (cells:List V):Option V:=
 if ZDM P t then (if ZmI P t≤cells.length then some (.agg (cells.take (ZmI P t))) else none)
 else if okU P t then cells.head? else none
def ZDJ (place:Nat→Option (Nat×Nat)) (cells:List V):List (Nat×V)→Option (List V)
 |[]=> some cells
 |(i,v)::rest=> match place i with
  |none=> none
  |some (off,size)=> if v.cells.length=size then
   match splice cells v.cells off with|some cs=> ZDJ place cs rest|none=> none
   else none
def ZDw (z:List V):Nat→List V
 |0=> []
 |n+1=> z++ZDw z n
def ZEw (regs:T V):List (Nat×Operand)→Option (List (Nat×V))
 |[]=> some []
 |(i,x)::xs=> match rd regs x,ZEw regs xs with
  |some v,some vs=> some ((i,v)::vs)
  |_,_=> none
def build (t:TypeId) (parts:List (Nat×V)):Option V:=
 match zeroOf P t with
 |none=> none
 |some z=> match und P t with
  |.struct fs=> if fs.toList.all (fun f=> okT P f.type) then (ZDJ (fun i=> fs.toList[i]?.map fun f=> (f.offset,ZmI P f.type)) z.cells parts).map .agg else none
  |.array _ e=> if okT P e then (ZDJ (fun i=> some (i * ZmI P e,ZmI P e)) z.cells parts).map .agg else none
  |_=> none
def ZE1 (t:TypeId) (len:Nat) (parts:List (Nat×V)):Option (List V×Nat):=
 match und P t with
 |.slice e=>
  if len * ZmI P e≤2 ^ 24∧okT P e=true then
   match (if len * ZmI P e=0 then some [] else (zeroOf P e).bind fun z=> if z.cells.length=ZmI P e then some (ZDw z.cells len) else none) with
   |none=> none
   |some zs=> (ZDJ (fun i=> some (i * ZmI P e,ZmI P e)) zs parts).map fun cs=> (cs,ZmI P e)
  else none
 |_=> none
def asI:V→Option Int
 |.int _ n=> some n
 |_=> none
structure Eff where
 v:V
 rd:List Nat:=[]
 wr:List (Nat×Blk):=[]
 nw:List Blk:=[]
 pan:Bool:=false
def ZC9 (get:Nat→Blk):V→Option (List V×Nat×List Nat)
 |.nils=> some ([],0,[])
 |.vs cs len _ _=> some (cs,len,[])
 |.hs r off len _ sz _=> match get r with
  |.row _ cs=> if off+len * sz≤cs.length then some ((cs.drop off).take (len * sz),len,[r]) else none
  |_=> none
 |_=> none
def ZCY (heapMode:Bool) (get:Nat→Blk) (nid:Nat) (e:TypeId) (s:V) (new:List V) (n:Nat) (rs:List Nat):Option Eff:=
 let sz:=ZmI P e
 let news:=V.seals new
 let pure:=V.pures news
 if okZ P e=false then none else
 let asVal (cs:List V) (len:Nat):Option Eff:=
  some {v:=.vs (cs++news) (len+n) sz (.tok nid (len+n)),rd:=rs,nw:=[.tok (len+n)]}
 let asRow (cs:List V) (len:Nat) (rs:List Nat):Option Eff:=
  some {v:=.hs nid 0 (len+n) (len+n) sz false,rd:=rs,nw:=[.row 0 (cs++new)]}
 match s with
 |.nils=> if ZD4 P e n then (if pure && !heapMode then asVal [] 0 else asRow [] 0 rs) else none
 |.vs cs len sz' own=> if sz'=sz∧ZD4 P e (len+n) then match own with
  |.tight=> if pure && !heapMode then asVal cs len else asRow cs len rs
  |.tok r e'=> match get r with
   |.tok hw=> if hw=e' then
    (if pure && !heapMode then some {v:=.vs (cs++news) (len+n) sz (.tok r (e'+n)),rd:=r::rs,wr:=[(r,.tok (e'+n))]}
     else some {v:=.hs nid 0 (len+n) (len+n) sz false,rd:=r::rs,wr:=[(r,.gone)],nw:=[.row (len * sz) (cs++new)]})
    else none
   |_=> none
  |.lock=> none
  else none
 |.hs r off len cap sz' ex=> if sz'=sz∧ZD4 P e (len+n) then match get r with
  |.row k cs=>
   if off+len * sz≤cs.length then
    if len+n≤cap then if k≤off+len * sz then match splice cs new (off+len * sz) with
     |some cs'=> some {v:=.hs r off (len+n) cap sz ex,rd:=r::rs,wr:=[(r,.row k cs')]}
     |none=> none
     else none
    else if ex then asRow ((cs.drop off).take (len * sz)) len (r::rs)
    else if off+len * sz=cs.length∧k≤cs.length then
     some {v:=.hs nid 0 (len+n) (len+n) sz false,rd:=r::rs,wr:=[(r,.gone)],nw:=[.row (k - off) (cs.drop off++new)]}
    else none
   else none
  |_=> none
  else none
 |_=> none
def eqV:Nat→TypeId→V→V→Option Bool
 |0,_,_,_=> none
 |d+1,t,x,y=>
  match und P t,x,y with
  |.bool,.bool a,.bool b=> some (a==b)
  |.int _,.int k a,.int k' b=> if k=k' then some (a==b) else none
  |.string,.str a,.str b=> some (a.data.toList==b.data.toList)
  |.pointer _,.nilp,.nilp=> some true
  |.pointer _,.nilp,.ptr _ _|.pointer _,.ptr _ _,.nilp|.pointer _,.nilp,.iptr _|.pointer _,.iptr _,.nilp=> some false
  |.interface _,.nilif,.nilif=> some true
  |.interface _,.nilif,.iface _ _|.interface _,.iface _ _,.nilif=> some false
  |.struct fs,.agg xs,.agg ys=> if P.stoodInHeld t then none else
   fs.toList.foldr (fun f k=> if f.name≠ "_" then
    match ZCC P f.type (xs.drop f.offset),ZCC P f.type (ys.drop f.offset) with
    |some a,some b=> match eqV d f.type a b with
     |some true=> k
     |r=> r
    |_,_=> none
    else k) (some true)
  |.slice _,.nils,.nils=> some true
  |.slice _,.nils,.vs _ _ _ _|.slice _,.nils,.hs _ _ _ _ _ _|.slice _,.vs _ _ _ _,.nils|.slice _,.hs _ _ _ _ _ _,.nils=> some false
  |.map _ _,.nilm,.nilm=> some true
  |.map _ _,.nilm,.map _|.map _ _,.map _,.nilm=> some false
  |.func _ _ _,.nilf,.nilf=> some true
  |.func _ _ _,.nilf,.fn _ _ _|.func _ _ _,.fn _ _ _,.nilf=> some false
  |_,_,_=> none
def ZmK (op:BinOp) (k:IntKind) (a:Int) (k':IntKind) (b:Int):Option V:=
 match op with
 |.shl=> if b < 0 then none else some (.int k (k.wrap (a * 2 ^ (min b.toNat k.bits))))
 |.shr=> if b < 0 then none else some (.int k (a.fdiv (2 ^ (min b.toNat k.bits))))
 |.add=> if k=k' then some (.int k (k.wrap (a+b))) else none
 |.sub=> if k=k' then some (.int k (k.wrap (a - b))) else none
 |.mul=> if k=k' then some (.int k (k.wrap (a * b))) else none
 |.quo=> if k=k'∧b≠0 then some (.int k (k.wrap (a.tdiv b))) else none
 |.rem=> if k=k'∧b≠0 then some (.int k (a.tmod b)) else none
 |.eql=> if k=k' then some (.bool (a==b)) else none
 |.neq=> if k=k' then some (.bool (a !=b)) else none
 |.lss=> if k=k' then some (.bool (a < b)) else none
 |.leq=> if k=k' then some (.bool (a≤b)) else none
 |.gtr=> if k=k' then some (.bool (a > b)) else none
 |.geq=> if k=k' then some (.bool (a ≥ b)) else none
 |_=> none
def ZF5 (op:BinOp) (a b:ByteArray):Option V:=
 match op with
 |.add=> if ((a.size+b.size:Nat):Int) > IntKind.i64.max then none else some (.str (a++b))
 |.eql=> some (.bool (a.data.toList==b.data.toList))
 |.neq=> some (.bool (!(a.data.toList==b.data.toList)))
 |.lss=> some (.bool (Op.bytesLess a.data.toList b.data.toList))
 |.geq=> some (.bool !(Op.bytesLess a.data.toList b.data.toList))
 |.leq=> some (.bool (Op.bytesLess a.data.toList b.data.toList||a.data.toList==b.data.toList))
 |.gtr=> some (.bool !(Op.bytesLess a.data.toList b.data.toList||a.data.toList==b.data.toList))
 |_=> none
def ZGG (t:TypeId) (cx cy:Bool) (x y:V):Bool:=
 match x,y with
 |.nilif,.nilif=> cx||cy
 |.agg _,.agg _=> !P.eqGuardType P.depth t
 |_,_=> true
def ZmJ (op:BinOp) (t:TypeId) (cx cy:Bool) (x y:V):Option V:=
 match x,y with
 |.int k a,.int k' b=> ZmK op k a k' b
 |.str a,.str b=> ZF5 op a b
 |x,y=> if ZGG P t cx cy x y then match op with
  |.eql=> (eqV P 100 t x y).map .bool
  |.neq=> (eqV P 100 t x y).map fun b=> .bool !b
  |_=> none
  else none
def bd1 (d:Option Nat) (y:Nat) (v:Option V):Option Nat:=
 match v with
 |none=> d
 |some v=> match asI v with
  |some i=> if 0≤i∧i≤y then some i.toNat else none
  |none=> none
def ZD7 (len cap:Nat) (lo hi mx:Option V):Option (Nat×Nat×Nat):=
 match bd1 (some cap) cap mx with
 |none=> none
 |some m=> match bd1 (if mx.isSome then none else some len) m hi with
  |none=> none
  |some h=> match bd1 (some 0) h lo with
   |none=> none
   |some l=> some (l,h,m)
def ZE4 (t:TypeId) (x:V) (lo hi mx:Option V):Option V:=
 match und P t,x with
 |.string,.str s=> if mx.isSome then none else match ZD7 s.size s.size lo hi none with
  |some (l,h,_)=> some (.str (s.extract l h))
  |none=> none
 |.slice e,.nils=> if okT P e then match ZD7 0 0 lo hi mx with
  |some _=> some .nils
  |none=> none
  else none
 |.slice e,.vs cs len sz own=> if ZmI P e=sz∧okT P e=true then match ZD7 len len lo hi mx with
  |some (l,h,m)=>
   let own':Own:=if mx.isSome then (if m=h then .tight else .lock) else if h=len then (match own with
    |.tight=> .tight
    |.tok r e=> .tok r e
    |.lock=> .lock) else .lock
   some (.vs ((cs.drop (l * sz)).take ((h - l) * sz)) (h - l) sz own')
  |none=> none
  else none
 |.slice e,.hs r off len cap sz ex=> if ZmI P e=sz∧okT P e=true then match ZD7 len cap lo hi mx with
  |some (l,h,m)=> if m=l then some (.vs [] 0 sz .lock) else some (.hs r (off+l * sz) (h - l) (m - l) sz (ex||mx.isSome))
  |none=> none
  else none
 |_,_=> none
def ZFc (s:TypeId) (f:Nat):Option Field:=match und P s with|.struct fs=> fs.toList[f]?|_=> none
def ZmN (p:V) (n:Nat):Option V:=
 match p with
 |.ptr r off=> some (.ptr r (off+n))
 |.iptr cs=> if n≤cs.length then some (.iptr (cs.drop n)) else none
 |_=> none
def indexAddr (t:TypeId) (x i:V):Option V:=
 match asI i with
 |none=> none
 |some i=> match und P t,x with
  |.array len e,p=> if 0≤i∧i < len∧okT P e=true then ZmN p (i.toNat * ZmI P e) else none
  |.slice e,.vs cs len _ _=> if 0≤i∧i < len∧okT P e=true then some (.iptr (cs.drop (i.toNat * ZmI P e))) else none
  |.slice e,.hs r off len _ _ _=> if 0≤i∧i < len∧okT P e=true then some (.ptr r (off+i.toNat * ZmI P e)) else none
  |_,_=> none
def ZEG (d:TypeDesc) (v:V):Bool:=
 match d,v with
 |.int _,.int _ _=> true
 |.string,.str _=> true
 |.bool,.bool _=> true
 |_,_=> false
def ZGe:List Field→Nat→List V→Bool
 |[],_,[]=> true
 |f::fs,i,v::vs=> Nat.beq f.offset i && decide (f.name≠ "_") && ZEG (und P f.type) v && ZGe fs (i+1) vs
 |_,_,_=> false
def ZEd (t:TypeId) (v:V):Bool:=
 match und P t,v with
 |.struct fs,.agg cs=> ZGe P fs.toList 0 cs
 |d,v=> ZEG d v
def ZFZ:V→V→Bool
 |.int k a,.int k' b=> decide (k=k') && decide (a=b)
 |.str a,.str b=> decide (a.data.toList=b.data.toList)
 |.bool a,.bool b=> a==b
 |_,_=> false
def ZF0:List V→List V→Bool
 |[],[]=> true
 |a::as,b::bs=> ZFZ a b && ZF0 as bs
 |_,_=> false
def sameKey:V→V→Bool
 |.agg a,.agg b=> ZF0 a b
 |a,b=> ZFZ a b
def ZCU (k:TypeId) (key:V):List (V×V)→Nat→Option (Option (Nat×V))
 |[],_=> some none
 |(x,v)::es,i=> match eqV P 100 k key x with
  |some true=> match ZCU k key es (i+1) with
   |some none=> some (some (i,v))
   |_=> none
  |some false=> ZCU k key es (i+1)
  |none=> none
def ZDO:V→Option Nat
 |.str s=> some (s.data.toList.foldl (fun n c=> n * 257+(c.toNat+1)) 0)
 |_=> none
def others (a:Nat) (es:List (V×V)):Bool:=es.all fun p=> match ZDO p.1 with|some b=> !Nat.beq a b|none=> false
def ZCs (a:Nat) (x:V×V):List (V×V)→List (V×V)
 |[]=> [x]
 |p::es=> if Nat.blt a ((ZDO p.1).getD 0) then x::p::es else p::ZCs a x es
def mapOf (get:Nat→Blk):V→Option (List (V×V)×List Nat)
 |.nilm=> some ([],[])
 |.map r=> match get r with|.map es _=> some (es,[r])|_=> none
 |_=> none
def lookup (get:Nat→Blk) (t:TypeId) (m k:V) (ok:Bool):Option Eff:=
 match und P t,mapOf get m with
 |.map kt e,some (es,rs)=> if ZEd P kt k then match ZCU P kt k es 0 with
  |some (some (_,v))=> some {v:=if ok then .tup [v,.bool true] else v,rd:=rs}
  |some none=> match zeroOf P e with
   |some z=> some {v:=if ok then .tup [z,.bool false] else z,rd:=rs}
   |none=> none
  |none=> none
  else none
 |_,_=> none
def mapUpdate (get:Nat→Blk) (t:TypeId) (m k v:V):Option Eff:=
 match und P t,m with
 |.map kt _,.map r=> if ZEd P kt k then match get r with
  |.map es ver=> match ZCU P kt k es 0 with
   |some (some (i,_))=> match es[i]? with
    |some (k',_)=> if sameKey k k' then some {v:=ZmM,rd:=[r],wr:=[(r,.map (es.set i (k,v)) (ver+1))]} else none
    |none=> none
   |some none=> some {v:=ZmM,rd:=[r],wr:=[(r,.map (es++[(k,v)]) (ver+1))]}
   |none=> none
  |_=> none
  else none
 |_,_=> none
def ZE2 (get:Nat→Blk) (t:TypeId) (m k v:V):Option Eff:=
 match und P t,m with
 |.map kt _,.map r=> match und P kt,ZDO k,get r with
  |.string,some a,.map es ver=> if others a es then some {v:=ZmM,rd:=[r],wr:=[(r,.map (ZCs a (k,v) es) (ver+1))]} else none
  |_,_,_=> none
 |_,_=> none
def ZDG (mx:Bool):V→List V→Option V
 |x,[]=> some x
 |.int k x,.int _ y::rest=> ZDG mx (.int k (if mx then (if x < y then y else x) else (if y < x then y else x))) rest
 |_,_=> none
def rdo (regs:T V):Option Operand→Option (Option V)
 |none=> some none
 |some x=> match rd regs x with|some v=> some (some v)|none=> none
def methodOf (t:TypeId) (name:String):Option FuncId:=
 match (P.info? t).bind fun i=> i.methods.toList.find? (·.name==name) with
 |some m=> match m.path.toList,m.func,und P t with
  |[],some (f,true),.pointer _=> some f
  |_,_,_=> none
 |none=> none
def val (x:Option V):Option Eff:=match x with|some v=> some {v}|none=> none
def ZDQ (get:Nat→Blk) (t:TypeId) (x:V):Option Eff:=
 match und P t,x with
 |.string,.str s=> some {v:=.int .i64 s.size}
 |.array n _,_=> some {v:=.int .i64 n}
 |.slice _,.nils=> some {v:=.int .i64 0}
 |.slice _,.ze=> some {v:=.int .i64 0}
 |.slice _,.vs _ n _ _=> some {v:=.int .i64 n}
 |.slice _,.hs _ _ n _ _ _=> some {v:=.int .i64 n}
 |.map _ _,m=> match mapOf get m with
  |some (es,rs)=> some {v:=.int .i64 es.length,rd:=rs}
  |none=> none
 |_,_=> none
def ZmL (heapMode:Bool) (get:Nat→Blk) (nid:Nat) (b:Builtin) (ts:List TypeId) (args:List V):Option Eff:=
 match b with
 |.len=> match ts,args with
  |[t],[x]=> ZDQ P get t x
  |_,_=> none
 |.append=> match ts,args with
  |[t,u],[s,x]=> match und P t,und P u with
   |.slice _,.int _=> none
   |.slice e,_=> if okU P u=false∨okZ P e=false then none else match ZC9 get x with
    |some (cs,n,rs)=> if V.ones cs=false∨cs.length≠n * ZmI P e then none else if n=0 then (match s with|.nils|.vs _ _ _ _|.hs _ _ _ _ _ _=> some {v:=s,rd:=rs}|_=> none) else ZCY P heapMode get nid e s cs n rs
    |none=> none
   |_,_=> none
  |_,_=> none
 |.max=> match args with
  |x::xs=> val (ZDG true x xs)
  |_=> none
 |.min=> match args with
  |x::xs=> val (ZDG false x xs)
  |_=> none
 |_=> none
structure X where
 run:T V→(Nat→Blk)→Nat→Option Eff
def X.no:X:=⟨fun _ _ _=> none⟩
def rd2 (regs:T V) (x y:Operand) (k:V→V→Option Eff):Option Eff:=
 match rd regs x,rd regs y with
 |some a,some b=> k a b
 |_,_=> none
def rd1 (regs:T V) (x:Operand) (k:V→Option Eff):Option Eff:=
 match rd regs x with
 |some a=> k a
 |none=> none
def ZCE (c a b:V):Option Eff:=match c with|.bool c=> some {v:=if c then a else b}|_=> none
def Zi3 (t:TypeId) (get:Nat→Blk) (p:V):Option Eff:=
 match p with
 |.iptr cs=> val (ZCC P t cs)
 |.ptr r off=> match get r with
  |.row _ cs=> if off≤cs.length then match ZCC P t (cs.drop off) with
   |some v=> some {v,rd:=[r]}
   |none=> none
   else none
  |_=> none
 |_=> none
def ZnB (t:TypeId) (get:Nat→Blk) (p x:V):Option Eff:=
 match p with
 |.ptr r off=> match get r with
  |.row k cs=> if k≤off∧x.cells.length=ZmI P t∧V.ones x.cells=true then match splice cs x.cells off with
   |some cs'=> some {v:=ZmM,rd:=[r],wr:=[(r,.row k cs')]}
   |none=> none
   else none
  |_=> none
 |_=> none
def ZCn (x:V):Option Eff:=
 match x with
 |.ptr r o=> some {v:=.ptr r o}
 |.iptr cs=> some {v:=.iptr cs}
 |.fn (.func f) a b=> some {v:=.fn (.func f) a b}
 |.fn (.method name) (.iface t x::a) b=> match methodOf P t name with
  |some _=> some {v:=.fn (.method name) (.iface t x::a) b}
  |none=> none
 |_=> none
def xUn (op:UnOp) (x:V):Option Eff:=
 match op,x with
 |.not,.bool b=> some {v:=.bool !b}
 |.neg,.int k n=> some {v:=.int k (k.wrap (0 - n))}
 |_,_=> none
def ZFG (d:TypeDesc) (x:V):Option Eff:=
 match d,x with
 |.int k,.int _ n=> some {v:=.int k (k.wrap n)}
 |.string,.str b=> some {v:=.str b}
 |_,_=> none
def ZF8 (heapMode:Bool) (nid len:Nat) (cs:List V) (sz:Nat):Option Eff:=
 if V.pures (V.seals cs) && !heapMode then some {v:=.vs (V.seals cs) len sz .tight} else some {v:=.hs nid 0 len len sz true,nw:=[.row 0 cs]}
def ZE6 (e:TypeId) (nid:Nat) (l c:Int):Option Eff:=
 if 0≤l∧l≤c∧c≤2 ^ 24∧c * bytesOf P e≤2 ^ 40∧okT P e=true then
  match (if c.toNat * ZmI P e=0 then some [] else (zeroOf P e).bind fun z=> if z.cells.length=ZmI P e then some (ZDw z.cells c.toNat) else none) with
  |some zs=> some {v:=.hs nid 0 l.toNat c.toNat (ZmI P e) true,nw:=[.row 0 zs]}
  |none=> none
 else none
def ZG7 (d:TypeDesc) (x i:V):Option Eff:=
 match d,x,i with
 |.array len e,.agg cs,.int _ i=> if 0≤i∧i < len∧okT P e=true then val (ZCC P e (cs.drop (i.toNat * ZmI P e))) else none
 |.string,.str b,.int _ i=> if 0≤i then val ((b.data.toList[i.toNat]?).map fun c=> .int .u8 c.toNat) else none
 |_,_,_=> none
def ZG8 (get:Nat→Blk) (nid:Nat) (x:V):Option Eff:=
 match x with
 |.nilm=> some {v:=.ptr nid 0,nw:=[.iter none 0 [] none]}
 |.map m=> match get m with
  |.map es ver=> some {v:=.ptr nid 0,rd:=[m],nw:=[.iter (some m) ver es none]}
  |_=> none
 |_=> none
def ZFn (get:Nat→Blk) (x:V):Option Eff:=
 match x with
 |.ptr r 0=> match get r with
  |.iter (some m) ver _ (some (k,v))=> match get m with
   |.map _ ver'=> if ver=ver' then some {v:=.tup [k,v],rd:=[r,m]} else none
   |_=> none
  |_=> none
 |_=> none
def ZG5 (t:TypeId) (ok:Bool) (x:V):Option Eff:=
 match und P t with
 |.interface _|.invalid=> none
 |_=> match x with
  |.iface t' v=> if t'=t then some {v:=if ok then .tup [v,.bool true] else v} else if ok then match zeroOf P t with
   |some z=> some {v:=.tup [z,.bool false]}
   |none=> none
   else none
  |.nilif=> if ok then match zeroOf P t with
   |some z=> some {v:=.tup [z,.bool false]}
   |none=> none
   else none
  |_=> none
def ZC6 (x:V) (i:Nat):Option Eff:=match x with|.tup vs=> val (vs[i]?)|_=> none
def ZG6 (f:Field) (x:V):Option Eff:=match x with|.agg cs=> val (ZCC P f.type (cs.drop f.offset))|_=> none
def exec (heapMode:Bool) (op:Op):X:=
 match op with
 |.move x|.assign x=> ⟨fun regs _ _=> rd1 regs x fun v=> some {v}⟩
 |.pick c a b=> ⟨fun regs _ _=> rd1 regs c fun c=> rd2 regs a b fun a b=> ZCE c a b⟩
 |.alloc t=> match zeroOf P t with
  |some z=> ⟨fun _ _ nid=> some {v:=.ptr nid 0,nw:=[.row 0 z.cells]}⟩
  |none=> X.no
 |.box _ x=> ⟨fun regs _ nid=> rd1 regs x fun x=> some {v:=.ptr nid 0,nw:=[.row 0 x.cells]}⟩
 |.build t ps=> ⟨fun regs _ _=> match ZEw regs ps.toList with|some ps=> val (build P t ps)|none=> none⟩
 |.buildSlice t len ps=> ⟨fun regs _ nid=> match ZEw regs ps.toList with
  |some ps=> match ZE1 P t len ps with
   |some (cs,sz)=> ZF8 heapMode nid len cs sz
   |none=> none
  |none=> none⟩
 |.load t a=> ⟨fun regs get _=> rd1 regs a fun a=> Zi3 P t get a⟩
 |.store t a x=> if okT P t then ⟨fun regs get _=> rd2 regs a x fun a x=> ZnB P t get a x⟩ else X.no
 |.nilCheck x=> ⟨fun regs _ _=> rd1 regs x fun x=> ZCn P x⟩
 |.binOp op t x y _=> ⟨fun regs _ _=> rd2 regs x y fun a b=> val (ZmJ P op t (x matches .const _) (y matches .const _) a b)⟩
 |.unOp op _ x=> ⟨fun regs _ _=> rd1 regs x fun x=> xUn op x⟩
 |.convert src dst x=> if okU P src then ⟨fun regs _ _=> rd1 regs x fun x=> ZFG (und P dst) x⟩ else X.no
 |.makeInterface t x=> match und P t with
  |.interface _=> X.no
  |_=> if okU P t then ⟨fun regs _ _=> rd1 regs x fun v=> some {v:=.iface t v}⟩ else X.no
 |.makeFunc f first captured=> match f with
  |.func g=> ⟨fun regs _ _=> match rds regs first.toList,rds regs captured.toList with
   |some a,some b=> some {v:=.fn (.func g) a b}
   |_,_=> none⟩
  |.method name=> ⟨fun regs _ _=> match rds regs first.toList,rds regs captured.toList with
   |some a,some b=> some {v:=.fn (.method name) a b}
   |_,_=> none⟩
  |_=> X.no
 |.makeMap _ none=> ⟨fun _ _ nid=> some {v:=.map nid,nw:=[.map [] 0]}⟩
 |.makeSlice t l c=> match und P t with
  |.slice e=> ⟨fun regs _ nid=> rd2 regs l c fun l c=> match asI l,asI c with
   |some l,some c=> ZE6 P e nid l c
   |_,_=> none⟩
  |_=> X.no
 |.slice t x lo hi mx=> ⟨fun regs _ _=> match rd regs x,rdo regs lo,rdo regs hi,rdo regs mx with
  |some x,some lo,some hi,some mx=> val (ZE4 P t x lo hi mx)
  |_,_,_,_=> none⟩
 |.fieldAddr t x f=> match ZFc P t f with
  |some f=> if ZmI P f.type=0 then X.no else ⟨fun regs _ _=> rd1 regs x fun p=> val (ZmN p f.offset)⟩
  |none=> X.no
 |.field t x f=> match ZFc P t f with
  |some f=> ⟨fun regs _ _=> rd1 regs x fun x=> ZG6 P f x⟩
  |none=> X.no
 |.indexAddr t x i=> ⟨fun regs _ _=> rd2 regs x i fun x i=> val (indexAddr P t x i)⟩
 |.index t x i=> ⟨fun regs _ _=> rd2 regs x i fun x i=> ZG7 P (und P t) x i⟩
 |.lookup t m k ok=> ⟨fun regs get _=> rd2 regs m k fun m k=> lookup P get t m k ok⟩
 |.mapUpdate t m k x=> ⟨fun regs get _=> rd1 regs m fun m=> rd2 regs k x fun k x=> mapUpdate P get t m k x⟩
 |.insert t m k x=> ⟨fun regs get _=> rd1 regs m fun m=> rd2 regs k x fun k x=> ZE2 P get t m k x⟩
 |.range t x=> match und P t with
  |.map _ _=> ⟨fun regs get nid=> rd1 regs x fun x=> ZG8 get nid x⟩
  |_=> X.no
 |.entry x=> ⟨fun regs get _=> rd1 regs x fun x=> ZFn get x⟩
 |.typeAssert x _ t ok=> ⟨fun regs _ _=> rd1 regs x fun x=> ZG5 P t ok x⟩
 |.extract x i=> ⟨fun regs _ _=> rd1 regs x fun x=> ZC6 x i⟩
 |.call c=> match c.callee with
  |.builtin b=> ⟨fun regs get nid=> match rds regs c.args.toList with
   |some args=> ZmL P heapMode get nid b c.argTypes.toList args
   |none=> none⟩
  |_=> X.no
 |_=> X.no
def picks:List (V×V)→List (V×V)→List ((V×V)×List (V×V))
 |_,[]=> []
 |pre,x::post=> (x,pre.reverse++post)::picks (x::pre) post
def ZFz (get:Nat→Blk) (x:V):Option (List Eff):=
 match x with
 |.ptr r 0=> match get r with
  |.iter none _ _ _=> some [{v:=.tup [.bool false],rd:=[r]}]
  |.iter (some m) ver left _=> match get m with
   |.map _ ver'=> if ver=ver' then (match left with
    |[]=> some [{v:=.tup [.bool false],rd:=[r,m]}]
    |_=> some ((picks [] left).map fun (e,left)=> {v:=.tup [.bool true,e.1,e.2],rd:=[r,m],wr:=[(r,.iter (some m) ver left (some e))]}))
    else none
   |_=> none
  |_=> none
 |_=> none
mutual
def V.beq:V→V→Bool
 |.bool a,.bool b=> a==b
 |.int k a,.int k' b=> decide (k=k') && decide (a=b)
 |.str a,.str b=> decide (a.data.toList=b.data.toList)
 |.nilp,.nilp|.nils,.nils|.nilm,.nilm|.nilf,.nilf|.nilif,.nilif=> true
 |.ptr r o,.ptr r' o'=> Nat.beq r r' && Nat.beq o o'
 |.iptr a,.iptr b=> V.beqs a b
 |.vs a n z o,.vs b n' z' o'=> Nat.beq n n' && Nat.beq z z' && (match o,o' with
  |.tight,.tight|.lock,.lock=> true
  |.tok r e,.tok r' e'=> Nat.beq r r' && Nat.beq e e'
  |_,_=> false) && V.beqs a b
 |.hs r o l c z x,.hs r' o' l' c' z' x'=> Nat.beq r r' && Nat.beq o o' && Nat.beq l l' && Nat.beq c c' && Nat.beq z z' && (x==x')
 |.map r,.map r'=> Nat.beq r r'
 |.fn (.func f) a b,.fn (.func f') a' b'=> Nat.beq f f' && V.beqs a a' && V.beqs b b'
 |.iface t v,.iface t' v'=> Nat.beq t t' && V.beq v v'
 |.agg a,.agg b=> V.beqs a b
 |.tup a,.tup b=> V.beqs a b
 |_,_=> false
def V.beqs:List V→List V→Bool
 |[],[]=> true
 |a::as,b::bs=> V.beq a b && V.beqs as bs
 |_,_=> false
end
def Eff.same (a b:Eff):Bool:=
 V.beq a.v b.v && (match a.rd,b.rd with|[],[]=> true|_,_=> false) && (match a.wr,b.wr with|[],[]=> true|_,_=> false) &&
 (match a.nw,b.nw with|[],[]=> true|[.tok e],[.tok e']=> Nat.beq e e'|_,_=> false) && (a.pan==b.pan)
def oneOf:List Eff→List Eff
 |e::e'::l=> if (e'::l).all (Eff.same e) then [e] else e::e'::l
 |l=> l
structure XW where
 run:T V→Bool
def ZCO (ops:Array Oper) (o:Oper):XW:=
 match o.guard with
 |none=> ⟨fun _=> true⟩
 |some (j,want)=> match (ops[j]?).bind (·.dst) with
  |none=> ⟨fun _=> false⟩
  |some d=> ⟨fun regs=> match regs.get ZmM d with
   |.bool b=> b==want
   |_=> false⟩
def put (regs:T V) (dst:Option Tmp) (v:V):T V:=match dst with|some d=> regs.set d v|none=> regs
inductive Callee1 where
 |func (f:FuncId) (args:List V)
 |round (l:Nat) (args:List V)
structure XC where
 run:T V→Option Callee1
def ZDu (c:Call):XC:=
 match c.callee with
 |.value f=> ⟨fun regs=> match rd regs f,rds regs c.args.toList with
  |some (.fn (.func g) first cap),some args=> some (.func g (first++args++cap))
  |some (.fn (.yield l) [] []),some args=> some (.round l args)
  |_,_=> none⟩
 |.invoke r name=> ⟨fun regs=> match rd regs r,rds regs c.args.toList with
  |some (.iface t v),some args=> match methodOf P t name with
   |some g=> some (.func g (v::args))
   |none=> none
  |_,_=> none⟩
 |.builtin _=> ⟨fun _=> none⟩
def ZHd (regs:T V) (c:Call):Option D:=
 match c.callee with
 |.value f=> match rd regs f,rds regs c.args.toList with
  |some (.fn (.func g) first cap),some args=> some (.call g cap (first++args))
  |_,_=> none
 |_=> none
structure Hint where
 heap:FuncId→Bool
 rows:FuncId→Option Tmp→Bool
 fix:FuncId→Nat→List Tmp
 frame:FuncId→Bool:=fun _=> false
def ZGg (h:H) (p:V):Option H:=
 match p with
 |.ptr r off=> match h.get r with
  |.row k cs=> match cs[off]? with
   |some (.hs r' off' len _ sz false)=> if r'=r then none else match h.get r' with
    |.row k' ds=> if off'+len * sz=ds.length∧k'≤ds.length∧V.pures (V.seals (ds.drop off'))=true then
     some (((h.set r (.row k (cs.set off (.vs (V.seals (ds.drop off')) len sz (.tok h.n len))))).set r' .gone).new (.tok len))
     else none
    |_=> none
   |_=> none
  |_=> none
 |_=> none
def ZFQ (regs:T V):List Tmp→H→Option H
 |[],h=> some h
 |t::ts,h=> match ZGg h (regs.get ZmM t) with
  |some h=> ZFQ regs ts h
  |none=> none
def ZC5 (f:V→Option V):List V→Option (List V)
 |[]=> some []
 |v::vs=> match f v,ZC5 f vs with
  |some v,some vs=> some (v::vs)
  |_,_=> none
def freeze (h:H):Nat→V→Option V
 |0,_=> none
 |k+1,v=> match v with
  |.hs r off len cap sz ex=> match h.get r with
   |.row _ cs=> if off+len * sz≤cs.length then
    match ZC5 (freeze h k) ((cs.drop off).take (len * sz)) with
    |some cs=> some (.vs cs len sz (if ex && len==cap then .tight else .lock))
    |none=> none
    else none
   |_=> none
  |.vs cs len sz (.tok _ _)=> some (.vs cs len sz .lock)
  |.agg cs=> (ZC5 (freeze h k) cs).map .agg
  |.tup cs=> (ZC5 (freeze h k) cs).map .tup
  |v=> if v.pure then some v else none
end
section
variable (P:Program)
def ZD3 (n:Nat) (h1:H) (v:V):Option Eff:=
 match v with
 |.vs cs len sz (.tok r e)=> match h1.get r with
  |.tok hw=> if hw=e then some {v:=.vs cs len sz (.tok n e),nw:=[.tok e]} else some {v:=.vs cs len sz .lock}
  |_=> some {v:=.vs cs len sz .lock}
 |.tup (.vs cs len sz (.tok r e)::vs)=> match ZC5 (freeze h1 60) vs with
  |some vs=> match h1.get r with
   |.tok hw=> if hw=e then some {v:=.tup (.vs cs len sz (.tok n e)::vs),nw:=[.tok e]} else some {v:=.tup (.vs cs len sz .lock::vs)}
   |_=> some {v:=.tup (.vs cs len sz .lock::vs)}
  |none=> none
 |.tup [.agg as,.vs cs len sz (.tok r e)]=> match freeze h1 60 (.agg as) with
  |some u=> match h1.get r with
   |.tok hw=> if hw=e then some {v:=.tup [u,.vs cs len sz (.tok n e)],nw:=[.tok e]} else some {v:=.tup [u,.vs cs len sz .lock]}
   |_=> some {v:=.tup [u,.vs cs len sz .lock]}
  |none=> none
 |v=> match freeze h1 60 v with
  |some v=> some {v}
  |none=> none
structure Known where
 call:FuncId→List V→Option V
 idle:FuncId→Bool
 callE:FuncId→List V→List (Nat×Blk)→Nat→Option Eff:=fun _ _ _ _=> none
structure Cx where
 fn:FuncId
 round:Option Nat
structure Ev where
 code:Cx→Code→St→Option (List (Ex×St))
 call:FuncId→List V→H→Option (List (R×H))
def ZCA {α β:Type} (f:α→Option (List β)):List α→Option (List β)
 |[]=> some []
 |[x]=> f x
 |x::xs=> match f x,ZCA f xs with
  |some a,some b=> some (a++b)
  |_,_=> none
def ZCT {α β:Type} (f:α→Option β):List α→Option (List β)
 |[]=> some []
 |x::xs=> match f x,ZCT f xs with
  |some a,some b=> some (a::b)
  |_,_=> none
section
variable (hint:Hint) (known:Known) (E:Ev)
structure Foot where
 rd:List Nat
 wr:List Nat
def H.news (h:H):List Blk→H
 |[]=> h
 |b::bs=> H.news (h.new b) bs
def Eff.apply (e:Eff) (h:H):H:=(e.wr.foldl (fun h (p:Nat×Blk)=> h.set p.1 p.2) h).news e.nw
def ZEl (n:Nat):List Blk→List Nat
 |[]=> []
 |_::bs=> n::ZEl (n+1) bs
def Eff.foot (e:Eff) (nid:Nat):Foot:=⟨e.rd,e.wr.map (·.1)++ZEl nid e.nw⟩
def ZD6:List V→Nat→T V→T V
 |[],_,t=> t
 |v::vs,i,t=> ZD6 vs (i+1) (t.set i v)
def ZFl:List Tmp→List V→T V→T V
 |t::ts,v::vs,r=> ZFl ts vs (r.set t v)
 |_,_,r=> r
def ZFu (l:Nat) (r:Ex×St):Option (V×H):=
 match r.2.dfs,r.2.h.get l with
 |[],.loop fn' regs' params' assign' body' _ .busy dfr'=> match r.1 with
  |.normal=> .some (.bool true,r.2.h.set l (.loop fn' regs' params' assign' body' none .ready dfr'))
  |.ret=> .some (.bool false,r.2.h.set l (.loop fn' regs' params' assign' body' (.some .ret) .done dfr'))
  |.exit id=> .some (.bool false,r.2.h.set l (.loop fn' regs' params' assign' body' (.some (.exit id)) .done dfr'))
  |.pan _=> none
 |_,_=> none
def ZEi (h:H) (l:Nat) (args:List V):Option (List (V×H)):=
 match h.get l with
 |.loop fn regs params assign body _ .ready _=>
  if args.length=params.length then
   match E.code {fn,round:=.some l} assign {regs:=ZFl params args regs,dfs:=[],h} with
   |.some [(.normal,s1)]=> match s1.h.get l with
    |.loop fn' regs' params' assign' body' pend' .ready dfr'=>
     match E.code {fn,round:=.some l} body {s1 with h:=s1.h.set l (.loop fn' regs' params' assign' body' pend' .busy dfr')} with
     |.some outs=> ZCT (ZFu l) outs
     |none=> none
    |_=> none
   |_=> none
  else none
 |_=> none
def ZE0 (f:FuncId) (n:Nat) (r:R×H):Option Eff:=
 match r.1 with
 |.ret v=> if hint.heap f then some {v:=v.shift n,nw:=ZDe r.2 n r.2.n 0} else match ZD3 n r.2 v with
  |.some e=> some e
  |none=> some {v:=v.shift n,nw:=ZDe r.2 n r.2.n 0}
 |.pan v=> match freeze r.2 60 v with
  |.some v=> some {v,pan:=true}
  |none=> none
def ZC3 (f:FuncId) (args:List V) (n:Nat):Option (List Eff):=
 match known.call f args with
 |.some v=> some [{v}]
 |none=> match E.call f args H.empty with
  |.some outs=> match ZCT (ZE0 hint f n) outs with
   |.some es=> some (oneOf es)
   |none=> none
  |none=> none
def St.eff (s:St) (o:Oper) (e:Eff):St:={s with regs:=put s.regs o.dst e.v,h:=e.apply s.h}
def St.res (s:St) (o:Oper) (r:V×H):St:={s with regs:=put s.regs o.dst r.1,h:=r.2}
def St.effR (s:St) (o:Oper) (e:Eff):Ex×St:=cond e.pan (.pan e.v,{s with h:=e.apply s.h}) (.normal,s.eff o e)
def St.resR (s:St) (o:Oper) (r:R×H):Ex×St:=match r.1 with
 |.ret v=> (.normal,s.res o (v,r.2))
 |.pan v=> (.pan v,{s with h:=r.2})
structure XO where
 run:Ev→Cx→St→Option (List (Ex×St))
def ZEa (E:Ev) (o:Oper) (s:St) (c:Option Callee1):Option (List (Ex×St)):=
 match c with
 |.some (.func f args)=>
  if V.pures (V.seals args) then
   match ZC3 hint known E f (V.seals args) s.h.n with
   |.some [e]=> some [s.effR o e]
   |.some es=> some (es.map (s.effR o))
   |none=> none
  else match E.call f args s.h with
   |.some outs=> some (outs.map (s.resR o))
   |none=> none
 |.some (.round l args)=> match ZEi E s.h l args with
  |.some outs=> some (outs.map fun r=> (.normal,s.res o r))
  |none=> none
 |none=> none
def op1 (fn:FuncId) (o:Oper):XO:=
 match o.op with
 |.call c=> match c.callee with
  |.builtin _=> ⟨fun _ _ s=> match (exec P (hint.rows fn o.dst) o.op).run s.regs s.h.get s.h.n with
   |.some e=> some [(.normal,s.eff o e)]
   |none=> none⟩
  |_=> ⟨fun E _ s=> ZEa hint known E o s ((ZDu P c).run s.regs)⟩
 |.next x false=> ⟨fun _ _ s=> match rd s.regs x with
  |.some x=> match ZFz s.h.get x with
   |.some es=> some (es.map fun e=> (.normal,s.eff o e))
   |none=> none
  |none=> none⟩
 |.panic x=> ⟨fun _ _ s=> match rd s.regs x with
  |.some (.iface t v)=> some [(.pan (.iface t v),s)]
  |_=> none⟩
 |.defer c=> ⟨fun _ cx s=> match cx.round,ZHd s.regs c with
  |none,.some d=> some [(.normal,{s with regs:=put s.regs o.dst ZmM,dfs:=d::s.dfs})]
  |_,_=> none⟩
 |_=> ⟨fun _ _ s=> match (exec P (hint.rows fn o.dst) o.op).run s.regs s.h.get s.h.n with
  |.some e=> some [(.normal,s.eff o e)]
  |none=> none⟩
structure XD where
 run:Ev→T V→(Nat→Blk)→Nat→Option Eff
def kindOk (a b:Blk):Bool:=match a with
 |.map _ _=> (match b with|.map _ _=> true|_=> false)
 |_=> true
def ZDd (E:Ev) (get:Nat→Blk) (n:Nat) (c:Option Callee1):Option Eff:=
 match c with
 |.some (.func f args)=>
  if V.pures (V.seals args) then
   match ZC3 hint known E f (V.seals args) n with
   |.some [e]=> if e.pan then none else some e
   |_=> none
  else match reach get 1000 (V.idss args) [] with
   |.some rs=> if rs.all (fun r=> Nat.blt r n) && Nat.blt n (2 ^ 20) then
    match E.call f args (H.only get n rs) with
    |.some [(.ret v,h1)]=> if Nat.ble n h1.n && h1.dirty.all (fun r=> Nat.ble n r||rs.contains r) && rs.all (fun r=> kindOk (h1.get r) (get r)) then some {v,rd:=rs,wr:=(rs.filter h1.dirty.contains).map fun r=> (r,h1.get r),nw:=h1.from (h1.n - n) n} else none
    |_=> none
    else none
   |none=> none
 |_=> none
def opD (fn:FuncId) (o:Oper):XD:=
 match o.op with
 |.call c=> match c.callee with
  |.builtin _=> ⟨fun _ regs get n=> (exec P (hint.rows fn o.dst) o.op).run regs get n⟩
  |_=> ⟨fun E regs get n=> ZDd hint known E get n ((ZDu P c).run regs)⟩
 |_=> ⟨fun _ regs get n=> (exec P (hint.rows fn o.dst) o.op).run regs get n⟩
def opsV (fn:FuncId) (all:Array Oper):List Oper→XO
 |[]=> ⟨fun _ _ s=> some [(.normal,s)]⟩
 |o::os=> ⟨fun E cx s=> if (ZCO all o).run s.regs then
   match (op1 P hint known fn o).run E cx s with
   |some [(.normal,s)]=> (opsV fn all os).run E cx s
   |some rs=> ZCA (fun r=> match r.1 with
    |.normal=> (opsV fn all os).run E cx r.2
    |_=> some [r]) rs
   |none=> none
  else (opsV fn all os).run E cx {s with regs:=put s.regs o.dst ZmM}⟩
def apart (a b:List Nat):Bool:=a.all fun x=> !b.contains x
def Foot.apart (a b:Foot):Bool:=Ae.apart a.wr b.wr && Ae.apart a.wr b.rd && Ae.apart a.rd b.wr
def ZEQ:Op→Bool
 |.insert _ _ _ _=> true
 |_=> false
def ZHa (all:Array Oper) (o:Oper) (j:Nat) (f f':Foot):Bool:=
 ZEQ o.op && (match all[j]? with|some p=> ZEQ p.op|none=> false) && (match f.rd,f'.rd with|[r],[r']=> Nat.beq r r'|_,_=> false)
def ZDB (bef:List Nat) (all:Array Oper) (o:Oper) (i j:Nat) (f f':Foot):Bool:=(bef.getD i 0).testBit j||f.apart f'||ZHa all o j f f'
structure XR where
 run:Ev→List (Nat×Foot)→St→Option St
def ZCV (fn:FuncId) (all:Array Oper) (bef:List Nat):List (Oper×Nat)→XR
 |[]=> ⟨fun _ _ s=> some s⟩
 |(o,i)::os=> ⟨fun E done s=> if (ZCO all o).run s.regs then
  match (opD P hint known fn o).run E s.regs s.h.get s.h.n with
  |some e=> match e with
   |⟨v,[],[],[],false⟩=> (ZCV fn all bef os).run E done {s with regs:=put s.regs o.dst v}
   |e=> if done.all (fun (j,f')=> ZDB bef all o i j (e.foot s.h.n) f') then (ZCV fn all bef os).run E ((i,e.foot s.h.n)::done) (s.eff o e) else none
  |none=> none
  else (ZCV fn all bef os).run E done {s with regs:=put s.regs o.dst ZmM}⟩
def ZDA (ops:Array Oper) (o:Oper):List Tmp:=
 o.dst.toList++(o.op.operands.toList.filterMap fun|.tmp t=> some t|_=> none)++
 (match o.guard with
  |some (g,_)=> ((ops[g]?).bind (·.dst)).toList
  |none=> [])
def ZHx (ops:Array Oper):Bool:=
 let p:=Region.linearise .gc ops 0
 ops.toList.zipIdx.all fun (o,j)=> o.after.toList.all fun e=> !Region.binds .gc e||(Nat.blt e.on ops.size && Nat.blt (p.idxOf e.on) (p.idxOf j))
def ZFj (ops:Array Oper):Bool:=
 let b:=(Region.before ops).toList
 let l:=ops.toList.zipIdx
 (l.all fun (o,j)=> o.after.toList.all fun e=> !Region.binds .text e||Nat.blt e.on j) && (!Region.departs ops||ZHx ops) &&
 l.all fun (o,j)=> (ZDA ops o).all fun t=> l.all fun (p,i)=> p.dst !=some t||i==j||(b.getD (max i j) 0).testBit (min i j)
def ZE3 (s:St):ResultVar→Option V
 |.tmp t=> some (s.regs.get ZmM t)
 |.cell a t=> match s.regs.get ZmM a with
  |.ptr r off=> match s.h.get r with
   |.row _ cs=> if off≤cs.length then ZCC P t (cs.drop off) else none
   |_=> none
  |_=> none
def ZCk (s:St):List ResultVar→Option (List V)
 |[]=> some []
 |r::rs=> match ZE3 P s r,ZCk s rs with
  |some v,some vs=> some (v::vs)
  |_,_=> none
def ZD2 (fn:Func) (s:St):Option V:=
 match ZCk P s fn.results.toList with
 |some [v]=> some v
 |some vs=> some (.tup vs)
 |none=> none
def ZFb (E:Ev) (f:FuncId) (xs:List V) (m:Option V) (h:H):Option (Option V×H):=
 match P.funcs[f]? with
 |.some fn=> match fn.body with
  |.some (.seq (.region _ ops false) rest)=> match ops.toList with
   |[o1,o2]=> match o1.op,o2.op,o1.dst,o2.dst with
    |.call c,.assign (.tmp b),.some d1,.some d2=>
     if (match c.callee with|.builtin .recover=> true|_=> false) && Nat.beq b d1 && o1.guard.isNone && o2.guard.isNone && Nat.beq fn.results.size 0 && Nat.ble xs.length fn.ntmps && Nat.blt fn.ntmps 1048576 && Nat.blt d1 fn.ntmps then
      let v:=m.getD .nilif
      match E.code {fn:=f,round:=none} rest {regs:=((ZD6 xs 0 (T.fill ZmM 20 fn.ntmps)).set d1 v).set d2 v,dfs:=[],h} with
      |.some [(.normal,s)]=> (match s.dfs with|[]=> .some (none,s.h)|_=> none)
      |.some [(.ret,s)]=> (match s.dfs with|[]=> .some (none,s.h)|_=> none)
      |_=> none
     else none
    |_,_,_,_=> none
   |_=> none
  |_=> none
 |none=> none
def ZDh (E:Ev):List D→Option V→H→Option (Option V×H)
 |[],m,h=> some (m,h)
 |.mark r::ds,m,h=> match h.get r with
  |.dfr=> ZDh E ds m (h.set r .gone)
  |_=> none
 |.call f cap args::ds,m,h=> if m.isNone && known.idle f then ZDh E ds m h else match ZFb P E f (args++cap) m h with
  |.some (m,h)=> ZDh E ds m h
  |none=> none
def ZDK (cx:Cx) (id:Nat) (s:St):Option (Ex×St):=
 match hint.fix cx.fn id with
 |[]=> some (.normal,s)
 |ts=> match ZFQ s.regs ts s.h with
  |some h=> some (.normal,{s with h})
  |none=> none
def ZEh (cx:Cx) (s:St) (dfs:List D) (l:Nat) (r:R×H):Option (List (Ex×St)):=
 match r.1 with
 |.pan v=> some [(.pan v,{s with dfs,h:=r.2})]
 |.ret _=> match r.2.get l with
 |.loop fn' regs' params' assign' body' pend st d'=>
  if st=.busy then none else
  let s:={s with dfs,h:=r.2.set l (.loop fn' regs' params' assign' body' pend .exhausted d')}
  match pend with
  |none=> some [(.normal,s)]
  |some c=> E.code cx c s
 |_=> none
def ZDD (E:Ev) (fn:Func) (r:Ex×St):Option (R×H):=
 match r.1 with
 |.exit _=> none
 |e=> match ZDh P known E r.2.dfs (match e with|.pan v=> .some v|_=> none) r.2.h with
  |some (none,h)=> match ZD2 P fn {r.2 with h} with
   |some v=> some (.ret v,h)
   |none=> none
  |some (.some v,h)=> some (.pan v,h)
  |none=> none
structure XK where
 run:Ev→Cx→St→Option (List (Ex×St))
def rangeAt (cx:Cx) (s:St):Option (Nat×List D×H):=
 match cx.round with
 |some l=> match s.h.get l with
  |.loop _ _ _ _ _ _ _ d=> some (d,s.dfs,s.h)
  |_=> none
 |none=> some (s.h.n,.mark s.h.n::s.dfs,s.h.new .dfr)
def ZD5 (E:Ev) (cx:Cx) (b:Code) (r:Option (List (Ex×St))):Option (List (Ex×St)):=
 match r with
 |some [(.normal,s)]=> E.code cx b s
 |some outs=> ZCA (fun r=> match r.1 with
  |.normal=> E.code cx b r.2
  |_=> some [r]) outs
 |none=> none
def ZEq (fn:FuncId) (c:Code):XK:=
 match c with
 |.skip=> ⟨fun _ _ s=> some [(.normal,s)]⟩
 |.label _=> ⟨fun _ _ s=> some [(.normal,s)]⟩
 |.region id os draw=>
  if draw then (if ZFj os then ⟨fun E cx s=> match (ZCV P hint known fn os (Region.before os).toList os.toList.zipIdx).run E [] s with
   |some s=> match ZDK hint cx id s with
    |some r=> some [r]
    |none=> none
   |none=> none⟩
   else ⟨fun _ _ _=> none⟩)
  else ⟨fun E cx s=> match (opsV P hint known fn os os.toList).run E cx s with
   |some rs=> ZCT (fun r=> match r.1 with
    |.normal=> ZDK hint cx id r.2
    |_=> some r) rs
   |none=> none⟩
 |.seq a b=> ⟨fun E cx s=> ZD5 E cx b (E.code cx a s)⟩
 |.cond c a b=> ⟨fun E cx s=> match rd s.regs c with
  |some (.bool true)=> E.code cx a s
  |some (.bool false)=> E.code cx b s
  |_=> none⟩
 |.block id b=> ⟨fun E cx s=> match E.code cx b s with
  |some outs=> some (outs.map fun r=> match r.1 with
   |.exit i=> (if i=id then .normal else .exit i,r.2)
   |_=> r)
  |none=> none⟩
 |.loop b=> ⟨fun E cx s=> ZD5 E cx (.loop b) (E.code cx b s)⟩
 |.scope b=> ⟨fun E cx s=> E.code cx b s⟩
 |.exit id=> ⟨fun _ _ s=> some [(.exit id,s)]⟩
 |.ret=> ⟨fun _ _ s=> some [(.ret,s)]⟩
 |.rangeFunc f params assign body=> ⟨fun E cx s=> match rangeAt cx s,rd s.regs f with
  |some (d,dfs,h),some (.fn (.func g) first cap)=>
   match E.call g (first++[.fn (.yield h.n) [] []]++cap) (h.new (.loop cx.fn s.regs params.toList assign body none .ready d)) with
   |some outs=> ZCA (ZEh E cx s dfs h.n) outs
   |none=> none
  |_,_=> none⟩
 |_=> ⟨fun _ _ _=> none⟩
structure XF where
 run:Ev→List V→H→Option (List (R×H))
def ZDL (f:FuncId):XF:=
 match P.funcs[f]? with
 |none=> ⟨fun _ _ _=> none⟩
 |some fn=> match fn.body with
  |none=> ⟨fun _ _ _=> none⟩
  |some c=> ⟨fun E args h=>
   if Nat.ble args.length fn.ntmps && Nat.blt fn.ntmps 1048576 then
    match E.code {fn:=f,round:=none} c {regs:=ZD6 args 0 (T.fill ZmM 20 fn.ntmps),dfs:=[],h} with
    |some outs=> ZCT (ZDD P known E fn) outs
    |none=> none
   else none⟩
def ZEB (rs:List Nat) (v:V) (h1:H) (n:Nat):Eff:={v,rd:=rs,wr:=(rs.filter h1.dirty.contains).map fun r=> (r,h1.get r),nw:=h1.from (h1.n - n) n}
def ZEW (a:Nat):List Nat→List Nat
 |[]=> [a]
 |b::l=> cond (Nat.blt a b) (a::b::l) (b::ZEW a l)
def ZFR (h:H):List Nat→Nat→Nat→Option (List Blk)
 |[],0,_=> some []
 |_::_,0,_=> none
 |[],k+1,_=> some (List.replicate (k+1) .gone)
 |a::l,k+1,i=> cond (Nat.beq a i)
   (match ZFR h l k (i+1) with
    |some bs=> some (h.get i::bs)
    |none=> none)
   (match ZFR h (a::l) k (i+1) with
    |some bs=> some (.gone::bs)
    |none=> none)
def ZEV (get:Nat→Blk) (rs:List Nat) (v:V) (h1:H) (n:Nat):Option Eff:=
 if Nat.ble n h1.n && Nat.blt h1.n (2 ^ 20) && h1.dirty.all (fun r=> Nat.ble n r||rs.contains r) && rs.all (fun r=> kindOk (h1.get r) (get r)) then
  match reach h1.get 100000 (V.ids v++rs) [] with
  |some keep=> match ZFR h1 ((keep.filter fun r=> Nat.ble n r).foldr ZEW []) (h1.n - n) n with
   |some nw=> some {v,rd:=rs,wr:=(rs.filter h1.dirty.contains).map fun r=> (r,h1.get r),nw}
   |none=> none
  |none=> none
 else none
def ZFd (f:FuncId) (args:List V) (h:H) (run:H→Option (List (R×H))):Option (List (R×H)):=
 match reach h.get 1000 (V.idss args) [] with
 |some rs=> if rs.all (fun r=> Nat.blt r h.n) && Nat.blt h.n (2 ^ 20) then
  match known.callE f args (rs.map fun r=> (r,h.get r)) h.n with
  |some e=> some [(.ret e.v,e.apply h)]
  |none=> match run (H.only h.get h.n rs) with
   |some [(.ret v,h1)]=> match ZEV h.get rs v h1 h.n with
    |some e=> some [(.ret e.v,e.apply h)]
    |none=> none
   |_=> none
  else none
 |none=> none
def ZEo (E:Ev) (f:FuncId) (args:List V) (h:H):Option (List (R×H)):=
 cond (hint.frame f) (ZFd known f args h ((ZDL P known f).run E args)) ((ZDL P known f).run E args h)
def ZKb (E:Ev):Ev where
 code cx c s:=(ZEq P hint known cx.fn c).run E cx s
 call f args h:=ZEo P hint known E f args h
def ev0:Ev where
 code _ _ _:=none
 call _ _ _:=none
end
def ev (hint:Hint) (known:Known) (n:Nat):Ev:=Nat.rec ev0 (fun _ E=> ZKb P hint known E) n
end
section
section
variable {α:Type} (d:α)
theorem T.get_lf (k:Nat):(T.lf:T α).get d k=d:=rfl
theorem T.get_nd0 (x:α) (l r:T α):(T.nd x l r).get d 0=x:=rfl
theorem T.get_ndS (x:α) (l r:T α) (k:Nat):(T.nd x l r).get d (k+1)=if k % 2=0 then l.get d (k / 2) else r.get d (k / 2):=by
 show cond (Nat.beq (k % 2) 0) (l.get d (k / 2)) (r.get d (k / 2))=_
 by_cases h:k % 2=0
 ·rw[if_pos h,h];rfl
 ·rw[if_neg h]
  have:Nat.beq (k % 2) 0=false:=by
   cases hb:Nat.beq (k % 2) 0 with
   |false=> rfl
   |true=> exact absurd (Nat.eq_of_beq_eq_true hb) h
  rw[this];rfl
theorem T.set_lf (k:Nat) (v:α):(T.lf:T α).set k v=.lf:=rfl
theorem T.set_nd0 (x:α) (l r:T α) (v:α):(T.nd x l r).set 0 v=.nd v l r:=rfl
theorem T.set_ndS (x:α) (l r:T α) (k:Nat) (v:α):(T.nd x l r).set (k+1) v=if k % 2=0 then .nd x (l.set (k / 2) v) r else .nd x l (r.set (k / 2) v):=by
 show cond (Nat.beq (k % 2) 0) (T.nd x (l.set (k / 2) v) r) (T.nd x l (r.set (k / 2) v))=_
 by_cases h:k % 2=0
 ·rw[if_pos h,h];rfl
 ·rw[if_neg h]
  have:Nat.beq (k % 2) 0=false:=by
   cases hb:Nat.beq (k % 2) 0 with
   |false=> rfl
   |true=> exact absurd (Nat.eq_of_beq_eq_true hb) h
  rw[this];rfl
theorem T.push_lf (k:Nat) (v:α):(T.lf:T α).push k v=.nd v .lf .lf:=rfl
theorem T.push_ndS (x:α) (l r:T α) (k:Nat) (v:α):(T.nd x l r).push (k+1) v=if k % 2=0 then .nd x (l.push (k / 2) v) r else .nd x l (r.push (k / 2) v):=by
 show cond (Nat.beq (k % 2) 0) (T.nd x (l.push (k / 2) v) r) (T.nd x l (r.push (k / 2) v))=_
 by_cases h:k % 2=0
 ·rw[if_pos h,h];rfl
 ·rw[if_neg h]
  have:Nat.beq (k % 2) 0=false:=by
   cases hb:Nat.beq (k % 2) 0 with
   |false=> rfl
   |true=> exact absurd (Nat.eq_of_beq_eq_true hb) h
  rw[this];rfl
def T.has:T α→Nat→Prop
 |.lf,_=> False
 |.nd _ l r,k=> k=0∨∃j,k=j+1∧((j % 2=0∧l.has (j / 2))∨(j % 2≠0∧r.has (j / 2)))
open Classical in
theorem T.get_set (t:T α):∀(k:Nat) (v:α) (j:Nat),(t.set k v).get d j=if j=k∧t.has k then v else t.get d j:=by
 induction t with
 |lf=> intro k v j;simp[T.set_lf,T.has]
 |nd x l r ihl ihr=>
  intro k v j
  cases k with
  |zero=>
   rw[T.set_nd0]
   cases j with
   |zero=> simp[T.get_nd0,T.has]
   |succ j=> simp[T.get_ndS]
  |succ k=>
   rw[T.set_ndS]
   cases j with
   |zero=> split <;> simp[T.get_nd0]
   |succ j=>
    by_cases hk:k % 2=0
    ·rw[if_pos hk,T.get_ndS,T.get_ndS]
     by_cases hj:j % 2=0
     ·rw[if_pos hj,if_pos hj,ihl]
      by_cases hjk:j=k
      ·subst hjk
       simp only[true_and,T.has]
       by_cases hh:l.has (j / 2)
       ·rw[if_pos hh,if_pos (Or.inr ⟨j,rfl,.inl ⟨hj,hh⟩⟩)]
       ·rw[if_neg hh,if_neg]
        rintro(h|⟨j',h,h'|h'⟩)
        ·omega
        ·obtain rfl:j=j':=by omega
         exact hh h'.2
        ·obtain rfl:j=j':=by omega
         exact h'.1 hj
      ·have:j / 2≠k / 2:=by omega
       rw[if_neg (fun h=> this h.1),if_neg (fun h=> hjk (by omega))]
     ·rw[if_neg hj,if_neg hj,if_neg]
      rintro⟨h,_⟩
      exact hj (by omega)
    ·rw[if_neg hk,T.get_ndS,T.get_ndS]
     by_cases hj:j % 2=0
     ·rw[if_pos hj,if_pos hj,if_neg]
      rintro⟨h,_⟩
      exact hk (by omega)
     ·rw[if_neg hj,if_neg hj,ihr]
      by_cases hjk:j=k
      ·subst hjk
       simp only[true_and,T.has]
       by_cases hh:r.has (j / 2)
       ·rw[if_pos hh,if_pos (Or.inr ⟨j,rfl,.inr ⟨hj,hh⟩⟩)]
       ·rw[if_neg hh,if_neg]
        rintro(h|⟨j',h,h'|h'⟩)
        ·omega
        ·obtain rfl:j=j':=by omega
         exact hj h'.1
        ·obtain rfl:j=j':=by omega
         exact hh h'.2
      ·have:j / 2≠k / 2:=by omega
       rw[if_neg (fun h=> this h.1),if_neg (fun h=> hjk (by omega))]
theorem T.has_nd (x:α) (l r:T α) (k:Nat):(T.nd x l r).has (k+1)↔if k % 2=0 then l.has (k / 2) else r.has (k / 2):=by
 simp only[T.has]
 constructor
 ·rintro(h|⟨j,h,h'|h'⟩)
  ·omega
  ·obtain rfl:k=j:=by omega
   rw[if_pos h'.1];exact h'.2
  ·obtain rfl:k=j:=by omega
   rw[if_neg h'.1];exact h'.2
 ·intro h
  by_cases hk:k % 2=0
  ·rw[if_pos hk] at h;exact .inr ⟨k,rfl,.inl ⟨hk,h⟩⟩
  ·rw[if_neg hk] at h;exact .inr ⟨k,rfl,.inr ⟨hk,h⟩⟩
theorem T.has_set (t:T α):∀(k:Nat) (v:α) (j:Nat),(t.set k v).has j↔t.has j:=by
 induction t with
 |lf=> intro k v j;rfl
 |nd x l r ihl ihr=>
  intro k v j
  cases k with
  |zero=> rw[T.set_nd0];simp[T.has]
  |succ k=>
   rw[T.set_ndS]
   cases j with
   |zero=> split <;> simp[T.has]
   |succ j=>
    split
    ·rw[T.has_nd,T.has_nd];split
     ·exact ihl _ _ _
     ·rfl
    ·rw[T.has_nd,T.has_nd];split
     ·rfl
     ·exact ihr _ _ _
def T.full (t:T α) (n:Nat):Prop:=∀k,t.has k↔k < n
theorem T.full_sub {x:α} {l r:T α} {n:Nat} (h:(T.nd x l r).full (n+1)):l.full ((n+1) / 2)∧r.full (n / 2):=by
 constructor <;> intro k
 ·have:=h (2 * k+1)
  rw[T.has_nd,if_pos (by omega),show(2 * k) / 2=k by omega] at this
  rw[this];omega
 ·have:=h (2 * k+1+1)
  rw[T.has_nd,if_neg (by omega),show(2 * k+1) / 2=k by omega] at this
  rw[this];omega
theorem T.has_push (t:T α):∀(n:Nat) (v:α),t.full n→(t.push n v).full (n+1):=by
 induction t with
 |lf=>
  intro n v h k
  have hn:n=0:=by
   cases n with
   |zero=> rfl
   |succ n=> have:=(h 0).2 (by omega);exact this.elim
  subst hn
  rw[T.push_lf]
  cases k with
  |zero=> simp[T.has]
  |succ k=> rw[T.has_nd];split <;> simp[T.has]
 |nd x l r ihl ihr=>
  intro n v h k
  cases n with
  |zero=> have:=(h 0).1 (.inl rfl);omega
  |succ n=>
   obtain⟨hl,hr⟩:=T.full_sub h
   rw[T.push_ndS]
   by_cases hn:n % 2=0
   ·rw[if_pos hn]
    have e1:(n+1) / 2=n / 2:=by omega
    rw[e1] at hl
    have:=ihl (n / 2) v hl
    cases k with
    |zero=> simp[T.has]
    |succ k=>
     rw[T.has_nd]
     split
     ·rw[this (k / 2)];omega
     ·rw[hr (k / 2)];omega
   ·rw[if_neg hn]
    have:=ihr (n / 2) v hr
    cases k with
    |zero=> simp[T.has]
    |succ k=>
     rw[T.has_nd]
     split
     ·rw[hl (k / 2)];omega
     ·rw[this (k / 2)];omega
theorem T.get_push (t:T α):∀(n:Nat) (v:α),t.full n→∀j,(t.push n v).get d j=if j=n then v else t.get d j:=by
 induction t with
 |lf=>
  intro n v h j
  have hn:n=0:=by
   cases n with
   |zero=> rfl
   |succ n=> have:=(h 0).2 (by omega);exact this.elim
  subst hn
  rw[T.push_lf]
  cases j with
  |zero=> rfl
  |succ j=> rw[T.get_ndS];simp[T.get_lf]
 |nd x l r ihl ihr=>
  intro n v h j
  cases n with
  |zero=> have:=(h 0).1 (.inl rfl);omega
  |succ n=>
   obtain⟨hl,hr⟩:=T.full_sub h
   rw[T.push_ndS]
   by_cases hn:n % 2=0
   ·rw[if_pos hn]
    have e1:(n+1) / 2=n / 2:=by omega
    rw[e1] at hl
    cases j with
    |zero=> rfl
    |succ j=>
     rw[T.get_ndS,T.get_ndS]
     by_cases hj:j % 2=0
     ·rw[if_pos hj,if_pos hj,ihl _ _ hl]
      by_cases e:j=n
      ·rw[if_pos (by omega),if_pos (by omega)]
      ·rw[if_neg (by omega),if_neg (by omega)]
     ·rw[if_neg hj,if_neg hj,if_neg (by omega)]
   ·rw[if_neg hn]
    cases j with
    |zero=> rfl
    |succ j=>
     rw[T.get_ndS,T.get_ndS]
     by_cases hj:j % 2=0
     ·rw[if_pos hj,if_pos hj,if_neg (by omega)]
     ·rw[if_neg hj,if_neg hj,ihr _ _ hr]
      by_cases e:j=n
      ·rw[if_pos (by omega),if_pos (by omega)]
      ·rw[if_neg (by omega),if_neg (by omega)]
theorem T.get_out (t:T α):∀k,¬t.has k→t.get d k=d:=by
 induction t with
 |lf=> intro k _;rfl
 |nd x l r ihl ihr=>
  intro k h
  cases k with
  |zero=> exact absurd (.inl rfl) h
  |succ k=>
   rw[T.has_nd] at h
   rw[T.get_ndS]
   by_cases hk:k % 2=0
   ·rw[if_pos hk] at h⊢;exact ihl _ h
   ·rw[if_neg hk] at h⊢;exact ihr _ h
theorem T.get_fill (f:Nat):∀n k,(T.fill d f n).get d k=d:=by
 induction f with
 |zero=> intro n k;rfl
 |succ f ih=>
  intro n k
  cases n with
  |zero=> rfl
  |succ n=>
   show(T.nd d (T.fill d f ((n+1) / 2)) (T.fill d f (n / 2))).get d k=d
   cases k with
   |zero=> rfl
   |succ k=> rw[T.get_ndS];split <;> exact ih _ _
theorem T.full_fill (f:Nat):∀n,n < 2 ^ f→(T.fill d f n).full n:=by
 induction f with
 |zero=> intro n h k;simp[T.fill,T.has];omega
 |succ f ih=>
  intro n h
  cases n with
  |zero=> intro k;simp[T.fill,T.has]
  |succ n=>
   intro k
   show(T.nd d (T.fill d f ((n+1) / 2)) (T.fill d f (n / 2))).has k↔_
   have hp:2 ^ (f+1)=2 * 2 ^ f:=by rw[Nat.pow_succ];omega
   cases k with
   |zero=> simp[T.has]
   |succ k=>
    rw[T.has_nd]
    split
    ·rw[ih _ (by omega) (k / 2)];omega
    ·rw[ih _ (by omega) (k / 2)];omega
theorem T.full_set {t:T α} {n:Nat} (h:t.full n) (k:Nat) (v:α):(t.set k v).full n:=fun j=> (T.has_set t k v j).trans (h j)
theorem T.get_set_full {t:T α} {n:Nat} (h:t.full n) (k:Nat) (v:α) (j:Nat):(t.set k v).get d j=if j=k∧k < n then v else t.get d j:=by
 rw[T.get_set]
 by_cases hc:j=k∧k < n
 ·rw[if_pos hc,if_pos ⟨hc.1,(h k).2 hc.2⟩]
 ·rw[if_neg hc,if_neg (fun hh=> hc ⟨hh.1,(h k).1 hh.2⟩)]
end
def H.wf (h:H):Prop:=h.t.full h.n
theorem H.get_set {h:H} (hw:h.wf) (r:Nat) (b:Blk) (j:Nat):(h.set r b).get j=if j=r∧r < h.n then b else h.get j:=T.get_set_full _ hw r b j
theorem H.wf_set {h:H} (hw:h.wf) (r:Nat) (b:Blk):(h.set r b).wf:=T.full_set hw r b
theorem H.get_new {h:H} (hw:h.wf) (b:Blk) (j:Nat):(h.new b).get j=if j=h.n then b else h.get j:=T.get_push _ _ _ _ hw j
theorem H.wf_new {h:H} (hw:h.wf) (b:Blk):(h.new b).wf:=T.has_push _ _ _ hw
theorem H.wf_empty:H.empty.wf:=fun k=> by simp[H.empty,T.has]
theorem H.get_out {h:H} (hw:h.wf) (r:Nat) (hr:h.n≤r):h.get r=.gone:=T.get_out _ _ r (fun hh=> by have:=(hw r).1 hh;omega)
end
section
structure At where
 ptr:Nat→Nat→Addr→Prop
 hs:Nat→Nat→Nat→Nat→Nat→Bool→Addr→Nat→Prop
 map:Nat→Nat→Prop
 yld:Nat→Nat→Prop
 tok:Nat→Nat→Nat→Nat→Nat→Prop
def At.bot:At:=⟨fun _ _ _=> False,fun _ _ _ _ _ _ _ _=> False,fun _ _=> False,fun _ _=> False,fun _ _ _ _ _=> False⟩
structure At.le (A A':At):Prop where
 ptr:∀r o x,A.ptr r o x→A'.ptr r o x
 hs:∀r o l c s e x n,A.hs r o l c s e x n→A'.hs r o l c s e x n
 map:∀r x,A.map r x→A'.map r x
 yld:∀r l,A.yld r l→A'.yld r l
 tok:∀r e b k c,A.tok r e b k c→A'.tok r e b k c
theorem At.le_refl (A:At):A.le A:=⟨fun _ _ _ h=> h,fun _ _ _ _ _ _ _ _ h=> h,fun _ _ h=> h,fun _ _ h=> h,fun _ _ _ _ _ h=> h⟩
theorem At.le_trans {A B C:At} (h:A.le B) (h':B.le C):A.le C:=
 ⟨fun _ _ _ x=> h'.ptr _ _ _ (h.ptr _ _ _ x),fun _ _ _ _ _ _ _ _ x=> h'.hs _ _ _ _ _ _ _ _ (h.hs _ _ _ _ _ _ _ _ x),fun _ _ x=> h'.map _ _ (h.map _ _ x),fun _ _ x=> h'.yld _ _ (h.yld _ _ x),fun _ _ _ _ _ x=> h'.tok _ _ _ _ _ (h.tok _ _ _ _ _ x)⟩
theorem At.bot_le (A:At):At.bot.le A:=⟨fun _ _ _ h=> h.elim,fun _ _ _ _ _ _ _ _ h=> h.elim,fun _ _ h=> h.elim,fun _ _ h=> h.elim,fun _ _ _ _ _ h=> h.elim⟩
abbrev Imm:=Nat→Nat→Option Value
def Imm.le (I J:Imm):Prop:=∀b o x,I b o=some x→J b o=some x
theorem Imm.le_refl (I:Imm):I.le I:=fun _ _ _ h=> h
theorem Imm.le_trans {I J K:Imm} (h:I.le J) (h':J.le K):I.le K:=fun _ _ _ x=> h' _ _ _ (h _ _ _ x)
def ZFB (A:At):Own→Nat→Nat→Nat→Nat→Nat→Prop
 |.tight,_,len,cap,_,_=> cap=len
 |.lock,_,_,_,_,_=> True
 |.tok r e,b,len,cap,k,c=> (cap=len∧∃b' k' c',A.tok r e b' k' c')∨A.tok r e b k c
def fnR (A:At):Fn→Fn→Prop
 |.yield r,.yield l=> A.yld r l
 |.yield _,_=> False
 |f,f'=> f'=f
mutual
def vr (I:Imm) (A:At):V→Value→Prop
 |.bool b,x=> x=.bool b
 |.int k n,x=> x=.int k n
 |.str s,x=> x=.string s
 |.nilp,x=> x=.pointer none
 |.ptr r o,x=> ∃a,x=.pointer (some a)∧A.ptr r o a
 |.iptr cs,x=> ∃b o,x=.pointer (some ⟨b,o,none⟩)∧vra I b o cs
 |.nils,x=> x=.slice none 0 0
 |.ze,x=> ∃a,x=.slice (some a) 0 0
 |.vs cs len sz own,x=> ∃b o cap,x=.slice (some ⟨b,o,none⟩) len cap∧len≤cap∧cs.length=len * sz∧vra I b o cs∧ZFB A own b len cap (o+len * sz) (o+cap * sz)
 |.hs r o l c s e,x=> ∃a n,x=.slice (some a) l n∧A.hs r o l c s e a n
 |.nilm,x=> x=.map none
 |.map r,x=> ∃b,x=.map (some b)∧A.map r b
 |.fn f a c,x=> ∃f' a' c',x=.func f' a' c'∧fnR A f f'∧vrl I A a a'.toList∧vrl I A c c'.toList
 |.nilf,x=> x=.nilFunc
 |.iface t v,x=> ∃y,x=.iface t y∧vr I A v y
 |.nilif,x=> x=.nilIface
 |.agg cs,x=> ∃ys,x=.agg ys∧vrl I A cs ys.toList
 |.tup cs,x=> ∃ys,x=.tuple ys∧vrl I A cs ys.toList
def vrl (I:Imm) (A:At):List V→List Value→Prop
 |[],ys=> ys=[]
 |v::vs,ys=> ∃x xs,ys=x::xs∧vr I A v x∧vrl I A vs xs
def vra (I:Imm):Nat→Nat→List V→Prop
 |_,_,[]=> True
 |b,o,v::vs=> (∃x,I b o=some x∧vr I At.bot v x)∧vra I b (o+1) vs
end
theorem zYk {A A':At} (hA:A.le A') {own:Own} {b l c k e:Nat} (h:ZFB A own b l c k e):ZFB A' own b l c k e:=by
 cases own with
 |tight=> exact h
 |lock=> trivial
 |tok r e=>
  rcases h with ⟨h,b',k',c',h'⟩|h
  ·exact .inl ⟨h,b',k',c',hA.tok _ _ _ _ _ h'⟩
  ·exact .inr (hA.tok _ _ _ _ _ h)
theorem zQG {A A':At} (hA:A.le A') {f f':Fn} (h:fnR A f f'):fnR A' f f':=by
 cases f <;> cases f' <;> first|exact h|exact hA.yld _ _ h
mutual
theorem Qv {I J:Imm} (hI:I.le J) {A A':At} (hA:A.le A'):∀{v:V} {x:Value},vr I A v x→vr J A' v x
 |.bool _,_,h=> by simpa[vr] using h
 |.int _ _,_,h=> by simpa[vr] using h
 |.str _,_,h=> by simpa[vr] using h
 |.nilp,_,h=> by simpa[vr] using h
 |.ptr _ _,_,h=> by simp only[vr] at h⊢;obtain⟨a,e,h⟩:=h;exact⟨a,e,hA.ptr _ _ _ h⟩
 |.iptr _,_,h=> by
  simp only[vr] at h⊢
  obtain⟨b,o,e,h⟩:=h
  exact⟨b,o,e,zww hI h⟩
 |.nils,_,h=> by simpa[vr] using h
 |.ze,_,h=> by simpa[vr] using h
 |.vs _ _ _ _,_,h=> by
  simp only[vr] at h⊢
  obtain⟨b,o,cap,e,h1,h2,h3,h4⟩:=h
  exact⟨b,o,cap,e,h1,h2,zww hI h3,zYk hA h4⟩
 |.hs _ _ _ _ _ _,_,h=> by simp only[vr] at h⊢;obtain⟨a,n,e,h⟩:=h;exact⟨a,n,e,hA.hs _ _ _ _ _ _ _ _ h⟩
 |.nilm,_,h=> by simpa[vr] using h
 |.map _,_,h=> by simp only[vr] at h⊢;obtain⟨a,e,h⟩:=h;exact⟨a,e,hA.map _ _ h⟩
 |.fn _ _ _,_,h=> by
  simp only[vr] at h⊢
  obtain⟨f',a',c',e,h1,h2,h3⟩:=h
  exact⟨f',a',c',e,zQG hA h1,QJ hI hA h2,QJ hI hA h3⟩
 |.nilf,_,h=> by simpa[vr] using h
 |.iface _ _,_,h=> by
  simp only[vr] at h⊢
  obtain⟨y,e,h⟩:=h
  exact⟨y,e,Qv hI hA h⟩
 |.nilif,_,h=> by simpa[vr] using h
 |.agg _,_,h=> by
  simp only[vr] at h⊢
  obtain⟨y,e,h⟩:=h
  exact⟨y,e,QJ hI hA h⟩
 |.tup _,_,h=> by
  simp only[vr] at h⊢
  obtain⟨y,e,h⟩:=h
  exact⟨y,e,QJ hI hA h⟩
theorem QJ {I J:Imm} (hI:I.le J) {A A':At} (hA:A.le A'):∀{vs:List V} {xs:List Value},vrl I A vs xs→vrl J A' vs xs
 |[],_,h=> by simpa[vrl] using h
 |_::_,_,h=> by
  simp only[vrl] at h⊢
  obtain⟨x,xs,e,h1,h2⟩:=h
  exact⟨x,xs,e,Qv hI hA h1,QJ hI hA h2⟩
theorem zww {I J:Imm} (hI:I.le J):∀{b o:Nat} {vs:List V},vra I b o vs→vra J b o vs
 |_,_,[],_=> by simp[vra]
 |_,_,_::_,h=> by
  simp only[vra] at h⊢
  obtain⟨⟨x,e,h1⟩,h2⟩:=h
  exact⟨⟨x,hI _ _ _ e,Qv hI (At.le_refl _) h1⟩,zww hI h2⟩
end
mutual
theorem zku {I:Imm} {A:At}:∀{v:V} {x:Value},v.pure=true→vr I A v x→vr I At.bot v x
 |.bool _,_,_,h=> by simpa[vr] using h
 |.int _ _,_,_,h=> by simpa[vr] using h
 |.str _,_,_,h=> by simpa[vr] using h
 |.nilp,_,_,h=> by simpa[vr] using h
 |.ptr _ _,_,p,_=> by simp[V.pure] at p
 |.iptr _,_,_,h=> by simpa[vr] using h
 |.nils,_,_,h=> by simpa[vr] using h
 |.ze,_,_,h=> by simpa[vr] using h
 |.vs _ _ _ .tight,_,_,h=> by simpa[vr,ZFB] using h
 |.vs _ _ _ .lock,_,_,h=> by simpa[vr,ZFB] using h
 |.vs _ _ _ (.tok _ _),_,p,_=> by simp[V.pure] at p
 |.hs _ _ _ _ _ _,_,p,_=> by simp[V.pure] at p
 |.nilm,_,_,h=> by simpa[vr] using h
 |.map _,_,p,_=> by simp[V.pure] at p
 |.fn f _ _,_,p,h=> by
  simp only[V.pure,Bool.and_eq_true] at p
  simp only[vr] at h⊢
  obtain⟨f',a',c',e,h1,h2,h3⟩:=h
  refine⟨f',a',c',e,?_,za3 p.1.2 h2,za3 p.2 h3⟩
  cases f <;> first|exact h1|(simp at p)
 |.nilf,_,_,h=> by simpa[vr] using h
 |.iface _ _,_,p,h=> by
  simp only[V.pure] at p
  simp only[vr] at h⊢
  obtain⟨y,e,h⟩:=h
  exact⟨y,e,zku p h⟩
 |.nilif,_,_,h=> by simpa[vr] using h
 |.agg _,_,p,h=> by
  simp only[V.pure] at p
  simp only[vr] at h⊢
  obtain⟨y,e,h⟩:=h
  exact⟨y,e,za3 p h⟩
 |.tup _,_,p,h=> by
  simp only[V.pure] at p
  simp only[vr] at h⊢
  obtain⟨y,e,h⟩:=h
  exact⟨y,e,za3 p h⟩
theorem za3 {I:Imm} {A:At}:∀{vs:List V} {xs:List Value},V.pures vs=true→vrl I A vs xs→vrl I At.bot vs xs
 |[],_,_,h=> by simpa[vrl] using h
 |_::_,_,p,h=> by
  simp only[V.pures,Bool.and_eq_true] at p
  simp only[vrl] at h⊢
  obtain⟨x,xs,e,h1,h2⟩:=h
  exact⟨x,xs,e,zku p.1 h1,za3 p.2 h2⟩
end
mutual
theorem zyE {I:Imm} {A:At}:∀{v:V} {x:Value},vr I A v x→vr I A v.shut x
 |.bool _,_,h=> by simpa[V.shut] using h
 |.int _ _,_,h=> by simpa[V.shut] using h
 |.str _,_,h=> by simpa[V.shut] using h
 |.nilp,_,h=> by simpa[V.shut] using h
 |.ptr _ _,_,h=> by simpa[V.shut] using h
 |.iptr _,_,h=> by simpa[V.shut] using h
 |.nils,_,h=> by simpa[V.shut] using h
 |.ze,_,h=> by simpa[V.shut] using h
 |.vs _ _ _ .tight,_,h=> by simpa[V.shut] using h
 |.vs _ _ _ .lock,_,h=> by simpa[V.shut] using h
 |.vs _ _ _ (.tok _ _),_,h=> by
  simp only[V.shut,vr] at h⊢
  obtain⟨b,o,cap,e,h1,h2,h3,_⟩:=h
  exact⟨b,o,cap,e,h1,h2,h3,trivial⟩
 |.hs _ _ _ _ _ _,_,h=> by simpa[V.shut] using h
 |.nilm,_,h=> by simpa[V.shut] using h
 |.map _,_,h=> by simpa[V.shut] using h
 |.fn _ _ _,_,h=> by
  simp only[V.shut,vr] at h⊢
  obtain⟨f',a',c',e,h1,h2,h3⟩:=h
  exact⟨f',a',c',e,h1,zaW h2,zaW h3⟩
 |.nilf,_,h=> by simpa[V.shut] using h
 |.iface _ _,_,h=> by
  simp only[V.shut,vr] at h⊢
  obtain⟨y,e,h⟩:=h
  exact⟨y,e,zyE h⟩
 |.nilif,_,h=> by simpa[V.shut] using h
 |.agg _,_,h=> by
  simp only[V.shut,vr] at h⊢
  obtain⟨y,e,h⟩:=h
  exact⟨y,e,zaW h⟩
 |.tup _,_,h=> by
  simp only[V.shut,vr] at h⊢
  obtain⟨y,e,h⟩:=h
  exact⟨y,e,zaW h⟩
theorem zaW {I:Imm} {A:At}:∀{vs:List V} {xs:List Value},vrl I A vs xs→vrl I A (V.seals vs) xs
 |[],_,h=> by simpa[V.seals] using h
 |_::_,_,h=> by
  simp only[V.seals,vrl] at h⊢
  obtain⟨x,xs,e,h1,h2⟩:=h
  exact⟨x,xs,e,zyE h1,zaW h2⟩
end
theorem Zg {I:Imm} {A:At}:∀{vs:List V} {xs:List Value},vrl I A vs xs→xs.length=vs.length
 |[],_,h=> by simp[vrl] at h;simp[h]
 |_::_,_,h=> by
  simp only[vrl] at h
  obtain⟨x,xs,rfl,_,h2⟩:=h
  simp[Zg h2]
theorem zab {I:Imm} {A:At}:∀{vs:List V} {xs:List Value},vrl I A vs xs→∀{i:Nat} {v:V},vs[i]?=some v→∃x,xs[i]?=some x∧vr I A v x
 |[],_,_,i,v,hv=> by simp at hv
 |_::_,_,h,i,v,hv=> by
  simp only[vrl] at h
  obtain⟨x,xs,rfl,h1,h2⟩:=h
  cases i with
  |zero=> simp at hv;subst hv;exact⟨x,rfl,h1⟩
  |succ i=> simp at hv;simpa using zab h2 hv
theorem zky {I:Imm} {A:At}:∀{vs:List V} {xs:List Value},xs.length=vs.length→(∀(i:Nat) (v:V),vs[i]?=some v→∃x,xs[i]?=some x∧vr I A v x)→vrl I A vs xs
 |[],xs,hl,_=> by simp only[vrl];simpa using hl
 |v::vs,xs,hl,h=> by
  cases xs with
  |nil=> simp at hl
  |cons x xs=>
   simp only[vrl]
   obtain⟨y,hy,hv⟩:=h 0 v rfl
   simp at hy;subst hy
   exact⟨x,xs,rfl,hv,zky (by simpa using hl) (fun i u hu=> by simpa using h (i+1) u (by simpa using hu))⟩
theorem QW {I:Imm} {A:At} {vs us:List V} {xs ys:List Value} (h:vrl I A vs xs) (h':vrl I A us ys):vrl I A (vs++us) (xs++ys):=by
 induction vs generalizing xs with
 |nil=> simp[vrl] at h;simpa[h] using h'
 |cons v vs ih=>
  simp only[vrl] at h
  obtain⟨x,xs,rfl,h1,h2⟩:=h
  simp only[List.cons_append,vrl]
  exact⟨x,xs++ys,rfl,h1,ih h2⟩
theorem zjo {I:Imm} {A:At} {vs:List V} {xs:List Value} (h:vrl I A vs xs) (n:Nat):vrl I A (vs.take n) (xs.take n):=by
 induction vs generalizing xs n with
 |nil=> simp[vrl] at h;simp[h,vrl]
 |cons v vs ih=>
  simp only[vrl] at h
  obtain⟨x,xs,rfl,h1,h2⟩:=h
  cases n with
  |zero=> simp[vrl]
  |succ n=> simp only[List.take_succ_cons,vrl];exact⟨x,xs.take n,rfl,h1,ih h2 n⟩
theorem zb0 {I:Imm} {A:At} {vs:List V} {xs:List Value} (h:vrl I A vs xs) (n:Nat):vrl I A (vs.drop n) (xs.drop n):=by
 induction vs generalizing xs n with
 |nil=> simp[vrl] at h;simp[h,vrl]
 |cons v vs ih=>
  cases n with
  |zero=> simpa using h
  |succ n=>
   simp only[vrl] at h
   obtain⟨x,xs,rfl,h1,h2⟩:=h
   simpa using ih h2 n
theorem zO4 {I:Imm} {A:At} {cs new cs':List V} {xs ys:List Value} {off:Nat} (h:vrl I A cs xs) (h':vrl I A new ys) (hs:splice cs new off=some cs'):
 off+new.length≤cs.length∧vrl I A cs' (xs.take off++ys++xs.drop (off+ys.length)):=by
 unfold splice at hs
 split at hs
 ·rename_i hle
  obtain rfl:=Option.some.inj hs
  refine⟨hle,?_⟩
  rw[Zg h']
  exact QW (QW (zjo h _) h') (zb0 h _)
 ·cases hs
theorem zdd {I:Imm} {vs:List V}:∀{b o:Nat},vra I b o vs↔∀(i:Nat) (v:V),vs[i]?=some v→∃x,I b (o+i)=some x∧vr I At.bot v x:=by
 induction vs with
 |nil=> intro b o;simp[vra]
 |cons v vs ih=>
  intro b o
  simp only[vra,ih]
  constructor
  ·rintro⟨h1,h2⟩ i u hu
   cases i with
   |zero=> simp at hu;subst hu;simpa using h1
   |succ i=> simp at hu;have:=h2 i u hu;rwa [Nat.add_assoc,Nat.add_comm 1 i] at this
  ·intro h
   refine⟨by simpa using h 0 v rfl,fun i u hu=> ?_⟩
   have:=h (i+1) u (by simpa using hu)
   rwa [Nat.add_assoc,Nat.add_comm 1 i]
theorem zDc {I:Imm} {b o:Nat} {vs:List V} (h:vra I b o vs) (n:Nat):vra I b (o+n) (vs.drop n):=
 zdd.2 fun i v hv=> by
  rw[List.getElem?_drop] at hv
  have:=zdd.1 h _ v hv
  rwa [←Nat.add_assoc] at this
theorem zZn {I:Imm} {b o:Nat} {vs:List V} (h:vra I b o vs) (n:Nat):vra I b o (vs.take n):=
 zdd.2 fun i v hv=> by
  rw[List.getElem?_take] at hv
  split at hv
  ·exact zdd.1 h i v hv
  ·cases hv
theorem zO2 {I:Imm} {b o:Nat} {vs us:List V} (h:vra I b o vs) (h':vra I b (o+vs.length) us):vra I b o (vs++us):=
 zdd.2 fun i v hv=> by
  rw[List.getElem?_append] at hv
  split at hv
  ·exact zdd.1 h i v hv
  ·rename_i hge
   have:=zdd.1 h' _ v hv
   rwa [show o+vs.length+(i - vs.length)=o+i by omega] at this
theorem zZo {I:Imm} {b:Nat} {vs:List V}:∀{o:Nat},vra I b o vs→∃xs:List Value,vrl I At.bot vs xs∧∀(i:Nat) (x:Value),xs[i]?=some x→I b (o+i)=some x:=by
 induction vs with
 |nil=> intro o _;exact⟨[],by simp[vrl],by simp⟩
 |cons v vs ih=>
  intro o h
  simp only[vra] at h
  obtain⟨⟨x,hx,hv⟩,h2⟩:=h
  obtain⟨xs,hl,hi⟩:=ih h2
  refine⟨x::xs,by simp only[vrl];exact⟨x,xs,rfl,hv,hl⟩,fun i y hy=> ?_⟩
  cases i with
  |zero=> simp at hy;subst hy;simpa using hx
  |succ i=> simp at hy;have:=hi i y hy;rwa [Nat.add_assoc,Nat.add_comm 1 i] at this
theorem zkx {I:Imm} {b o:Nat} {vs:List V} {xs:List Value} (hl:vrl I At.bot vs xs) (hi:∀(i:Nat) (x:Value),xs[i]?=some x→I b (o+i)=some x):vra I b o vs:=
 zdd.2 fun i v hv=> by
  obtain⟨x,hx,hv⟩:=zab hl hv
  exact⟨x,hi i x hx,hv⟩
mutual
theorem zDb {I:Imm} {A:At}:∀{x:Value} {v:V},ofValue x=some v→vr I A v x
 |.bool _,v,h=> by simp[ofValue] at h;subst h;simp[vr]
 |.int _ _,v,h=> by simp[ofValue] at h;subst h;simp[vr]
 |.float _ _,v,h=> by simp[ofValue] at h
 |.complex _ _ _,v,h=> by simp[ofValue] at h
 |.string _,v,h=> by simp[ofValue] at h;subst h;simp[vr]
 |.pointer none,v,h=> by simp[ofValue] at h;subst h;simp[vr]
 |.pointer (some _),v,h=> by simp[ofValue] at h
 |.slice none 0 0,v,h=> by simp[ofValue] at h;subst h;simp[vr]
 |.slice none 0 (_+1),v,h=> by simp[ofValue] at h
 |.slice none (_+1) _,v,h=> by simp[ofValue] at h
 |.slice (some _) _ _,v,h=> by simp[ofValue] at h
 |.map none,v,h=> by simp[ofValue] at h;subst h;simp[vr]
 |.map (some _),v,h=> by simp[ofValue] at h
 |.chan _,v,h=> by simp[ofValue] at h
 |.func _ _ _,v,h=> by simp[ofValue] at h
 |.nilFunc,v,h=> by simp[ofValue] at h;subst h;simp[vr]
 |.iface _ _,v,h=> by simp[ofValue] at h
 |.nilIface,v,h=> by simp[ofValue] at h;subst h;simp[vr]
 |.agg ⟨cs⟩,v,h=> by
  simp only[ofValue] at h
  cases hc:ofValues cs with
  |none=> simp[hc] at h
  |some us=> simp[hc] at h;subst h;simp only[vr];exact⟨⟨cs⟩,rfl,zDd hc⟩
 |.tuple ⟨cs⟩,v,h=> by
  simp only[ofValue] at h
  cases hc:ofValues cs with
  |none=> simp[hc] at h
  |some us=> simp[hc] at h;subst h;simp only[vr];exact⟨⟨cs⟩,rfl,zDd hc⟩
theorem zDd {I:Imm} {A:At}:∀{xs:List Value} {vs:List V},ofValues xs=some vs→vrl I A vs xs
 |[],vs,h=> by simp[ofValues] at h;subst h;simp[vrl]
 |x::xs,vs,h=> by
  simp only[ofValues] at h
  cases h1:ofValue x with
  |none=> simp[h1] at h
  |some v=>
   cases h2:ofValues xs with
   |none=> simp[h1,h2] at h
   |some us=>
    simp[h1,h2] at h;subst h
    simp only[vrl]
    exact⟨x,xs,rfl,zDb h1,zDd h2⟩
end
theorem zjm {I:Imm} {A:At}:vr I A ZmM undef:=by simp[ZmM,undef,vr,vrl]
theorem zks {I:Imm} {A:At} {v:V} {x:Value} (h:vr I A v x):vrl I A v.cells x.cells.toList:=by
 cases v with
 |agg cs=> simp only[vr] at h;obtain⟨ys,rfl,h⟩:=h;exact h
 |_=>
  have hx:x.cells=#[x]:=by
   simp only[vr] at h
   cases x <;> first|rfl|(simp at h)
  simp only[V.cells,hx,vrl]
  exact⟨x,[],by simp,h,rfl⟩
end
end
end Go.Ae
end
