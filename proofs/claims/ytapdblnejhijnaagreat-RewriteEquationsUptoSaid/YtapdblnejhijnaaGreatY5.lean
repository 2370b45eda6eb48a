/- Symbolic runs: code; functions return. -/
import Derived.Test.YtapdblnejhijnaaGreatY4
set_option linter.all false
noncomputable section
namespace Go.Ae
section
section
def ZMl:Code→List Nat
 |.region _ ops _=> ops.toList.filterMap (·.dst)
 |.seq a b=> ZMl a++ZMl b
 |.cond _ a b=> ZMl a++ZMl b
 |.block _ b=> ZMl b
 |.loop b=> ZMl b
 |.scope b=> ZMl b
 |_=> []
def ZPx (a:SS):A→Bool
 |.k v=> V.pure v
 |.s x=> ZMw a x
 |.len _|.lit _ _ _|.ip _ _=> true
 |_=> false
def ZPy (a:SS):A→Bool
 |.agg l=> l.all (ZPx a)
 |x=> ZPx a x
def apA (a:SS):A→Bool
 |.s x=> ZKK a.ap x
 |.k .nils=> true
 |.lit _ _ _=> true
 |_=> false
def ZW3:PK→Bool
 |.one _=> true
 |_=> false
section
variable (P:Program) (KD:TypeId→Bool→List K)
def keepR (rs:List (Nat×A)) (a':SS):List (Nat×A)→Bool
 |[]=> true
 |p::l=> (match look rs p.1 with
  |some x=> match look a'.regs p.1 with
   |some y=> A.beq x y
   |none=> false
  |none=> true) && keepR rs a' l
def ZMa:List (Option (List A))→List (Option (List A))→Bool
 |[],_=> true
 |none::l,_::l'=> ZMa l l'
 |some x::l,some y::l'=> A.beqs x y && ZMa l l'
 |_,_=> false
def lv1 (a':SS) (p:Nat×PK×Nat):Bool:=
 match look a'.regs p.1 with
 |some y=> ZMo P KD a' y p.2.1 && ((!Nat.beq p.2.2 0 && ZW3 p.2.1)||ZPy a' y) && (!Nat.beq p.2.2 2||(apA a' y && ZW3 p.2.1))
 |none=> false
def ZLe (a':SS) (t:Nat):Option Nat:=
 match look a'.regs t with
 |some (.s x)=> some x
 |_=> none
def ZPK (a':SS) (ka:List Nat):List (Nat×PK×Nat)→Bool
 |[]=> true
 |p::l=> (!Nat.beq p.2.2 2||(match ZLe a' p.1 with
  |some x=> !ZKK ka x && l.all (fun q=> !Nat.beq q.2.2 2||(match ZLe a' q.1 with
   |some y=> !Nat.beq x y
   |none=> true))
  |none=> true)) && ZPK a' ka l
def bl1 (len:Nat) (a':SS) (p:Nat×List K):Bool:=
 Nat.blt p.1 len && (match a'.blks[p.1]? with
  |some (some y)=> ZMn P KD 100 a' y p.2 && y.all (ZPx a')
  |_=> false)
def iv1 (a':SS) (c:LQ×LQ×Int):Bool:=
 match ZLl a' c.1,ZLl a' c.2.1 with
 |some (p,i),some (q,j)=> ent a' 4 p q (c.2.2 - i+j)
 |_,_=> false
def rf1 (xI:Nat→Option Nat) (a':SS) (c:Nat×TypeId×Nat):Bool:=
 match ZLl a' (.v c.2.2 0) with
 |some (q,k)=> ent a' 4 q .z (-k)||(match xI c.2.2 with
  |some x=> ent a' 4 q (.v x) (1 - k) && Nat.beq (KD c.2.1 true).length (ZmI P c.2.1) && (match ZOi a'.fs c.1 (.v x) 0 with
   |some (b,n)=> ZMn P KD 100 a' (ZLX (b+1) n) (KD c.2.1 true)
   |none=> false)
  |none=> false)
 |none=> false
def ZNj (pl:Plan) (a a':SS) (xI:Nat→Option Nat):Bool:=
 keepR (headA pl a).regs a' (headA pl a).regs && ZMa (headA pl a).blks a'.blks && pl.lv.all (lv1 P KD a') && ZPK a' pl.ka pl.lv && pl.bl.all (bl1 P KD a.blks.length a') && pl.ka.all (ZKK a'.ap) && pl.iv.all (iv1 a') && pl.rfs.all (rf1 P KD xI a')
def ZRq (pl:Plan) (I a':SS):Bool:=
 match ZLl I pl.mp,ZLl I pl.mq,ZLl a' pl.mp,ZLl a' pl.mq with
 |some (p,i),some (q,j),some (p',i'),some (q',j')=> ent a' 4 q p (i - j) &&
  ((ent a' 4 p' p (i - i' - 1) && ent a' 4 q q' (j' - j))||(ent a' 4 p' p (i - i') && ent a' 4 q q' (j' - j - 1)))
 |_,_,_,_=> false
def fitAll (pl:Plan) (a I:SS):List (E1×SS)→Bool
 |[]=> true
 |p::l=> (match p.1 with
  |.nrm=> ZNj P KD pl a p.2 (ZLe I) && ZRq pl I p.2
  |_=> true) && fitAll pl a I l
def ZL3:List (E1×SS)→List (E1×SS)
 |[]=> []
 |p::l=> cond p.1.isN (ZL3 l) (p::ZL3 l)
def K.weak:K→K
 |.idx=> .int .i64
 |.str _=> .str maxLen
 |.sl e r _=> .sl e r maxLen
 |k=> k
def PK.weak:PK→PK
 |.one k=> .one k.weak
 |.ag ks=> .ag (ks.map K.weak)
 |.tt _=> .one .bool
 |.fc f=> .fc f
 |.ci k _=> .one (.int k)
def ZXb (a:SS) (x:A):Option K:=
 match x with
 |.k (.int .i64 n)=> if 0≤n then some .idx else some (.int .i64)
 |.s x=> match ZNS a x with
  |some (.int .i64)=> cond (ent a 3 .z (.v x) 0) (some .idx) (some (.int .i64))
  |k=> k
 |x=> ZLM a x
def ZRj (a:SS):List A→Option (List K)
 |[]=> some []
 |x::l=> match ZXb a x,ZRj a l with
  |some k,some ks=> some (k::ks)
  |_,_=> none
def pkG (a:SS) (x:A):Option PK:=
 match x with
 |.agg l=> (ZRj a l).map .ag
 |.k (.agg cs)=> (ZRj a (cs.map .k)).map .ag
 |x=> (ZXb a x).map .one
def ZZy (o:Oper):List (Nat×TypeId):=
 match o.op with
 |.call c=> match c.callee,c.argTypes.toList,c.args.toList with
  |.builtin .append,t::_,.tmp x::_=> (match und P t with
   |.slice e=> [(x,e)]
   |_=> [])
  |_,_,_=> []
 |_=> []
def ZMD:Code→List (Nat×TypeId)
 |.region _ ops _=> ops.toList.flatMap (ZZy P)
 |.seq a b=> ZMD a++ZMD b
 |.cond _ a b=> ZMD a++ZMD b
 |.block _ b=> ZMD b
 |.loop b=> ZMD b
 |.scope b=> ZMD b
 |_=> []
def Z1I (o:Oper):List (Nat×Nat):=
 match o.dst,o.op with
 |some d,.move (.tmp x)=> [(d,x)]
 |_,_=> []
def ZMR:Code→List (Nat×Nat)
 |.region _ ops _=> ops.toList.flatMap Z1I
 |.seq a b=> ZMR a++ZMR b
 |.cond _ a b=> ZMR a++ZMR b
 |.block _ b=> ZMR b
 |.loop b=> ZMR b
 |.scope b=> ZMR b
 |_=> []
def alias (mv:List (Nat×Nat)):List (Nat×TypeId)→List (Nat×TypeId)
 |[]=> []
 |(x,e)::l=> (match look mv x with
  |some y=> [(x,e),(y,e)]
  |none=> [(x,e)])++alias mv l
def lvG (a:SS) (aps:List (Nat×TypeId)) (t:Nat) (x:A):Option (PK×Nat):=
 match look aps t with
 |some e=> cond (apA a x) (some (.one (.sl e (ZYe a x) maxLen),2)) ((pkG a x).map fun p=> (p,cond (ZPy a x) 0 1))
 |none=> (pkG a x).map fun p=> (p,cond (ZPy a x) 0 1)
def lvs (a:SS) (aps:List (Nat×TypeId)):List Nat→List (Nat×PK×Nat)
 |[]=> []
 |t::l=> let r:=lvs a aps l
  match look a.regs t with
  |some x=> match lvG a aps t x with
   |some p=> match look r t with
    |some _=> r
    |none=> (t,p)::r
   |none=> r
  |none=> r
def ZOC (outs:List (E1×SS)):List SS:=(outs.filter fun p=> p.1.isN).map (·.2)
def ZXq (x y:Option Int):Option Int:=match x,y with
 |some a,some b=> some (cond (leI a b) a b)
 |some a,none=> some a
 |none,y=> y
def ZU6 (a:SS) (p q:Q):Option Int:=cond (Q.beq p q) (some 0) (match p,q with
 |.z,.l _=> some 0
 |.z,.r _=> some 0
 |.n _,.z=> some 0
 |.z,.v y=> match ZFS a y with
  |some .idx=> some 0
  |_=> none
 |.l x,.z=> match ZFS a x with
  |some (.str n)=> cond (Nat.beq n maxLen) none (some n)
  |some (.sl _ _ n)=> cond (Nat.beq n maxLen) none (some n)
  |_=> none
 |_,_=> none)
def ZSc (r:Q→Q→Option Int) (p q:Q):List Fact→Option Int
 |[]=> none
 |.c p' r' k'::l=> ZXq (cond (Q.beq p' p) ((r r' q).map (·+k')) none) (ZSc r p q l)
 |_::l=> ZSc r p q l
def ZVa (a:SS):Nat→Q→Q→Option Int
 |0,p,q=> ZU6 a p q
 |d+1,p,q=> ZXq (ZU6 a p q) (ZSc (ZVa a d) p q a.fs)
def bound (a:SS) (p q:LQ):List (LQ×LQ×Int):=
 match ZLl a p,ZLl a q with
 |some (p',i),some (q',j)=> match ZVa a 3 p' q' with
  |some k=> cond (leI 0 (k+i - j)) [(p,q,k+i - j)] [(p,q,k+i - j),(p,q,0)]
  |none=> []
 |_,_=> []
def ZPt (b:Nat):List (K×Nat)→List LQ
 |[]=> []
 |(.int .i64,c)::l=> .bv b c::ZPt b l
 |(.idx,c)::l=> .bv b c::ZPt b l
 |(.sl _ _ _,c)::l=> .bl b c::ZPt b l
 |_::l=> ZPt b l
def ZXj (bl:List (Nat×List K)):List LQ:=bl.flatMap fun p=> cond (Nat.ble p.2.length 3) (ZPt p.1 p.2.zipIdx) []
def lqs:List (Nat×PK×Nat)→List LQ
 |[]=> []
 |(t,.one (.int .i64),_)::l=> .v t 0::lqs l
 |(t,.one .idx,_)::l=> .v t 0::lqs l
 |(t,.one (.sl _ _ _),_)::l=> .l t 0::lqs l
 |_::l=> lqs l
def pairs:List LQ→List (LQ×LQ)
 |[]=> []
 |x::l=> (x,.o .z)::(.o .z,x)::(l.flatMap fun y=> [(x,y),(y,x)])++pairs l
def ZOA (I:SS) (q:Q):List LQ→Option LQ
 |[]=> none
 |x::l=> match ZLl I x with
  |some (q',_)=> cond (Q.beq q' q) (some x) (ZOA I q l)
  |none=> ZOA I q l
def ZQr (a:SS) (q:Q):Bool:=match q with
 |.z=> false
 |q=> q.bel a.nx
def ZTo (a I:SS) (ls:List LQ):List Fact→List (LQ×LQ)
 |[]=> []
 |.c p q _::l=> (match ZOA I p ls,ZQr a q with
  |some x,true=> [(x,LQ.o q)]
  |_,_=> [])++(match ZOA I q ls,ZQr a p with
  |some x,true=> [(LQ.o p,x)]
  |_,_=> [])++ZTo a I ls l
 |_::l=> ZTo a I ls l
def LQ.beq:LQ→LQ→Bool
 |.o p,.o q=> Q.beq p q
 |.v t c,.v t' c'=> Nat.beq t t' && Nat.beq c c'
 |.l t c,.l t' c'=> Nat.beq t t' && Nat.beq c c'
 |.r t c,.r t' c'=> Nat.beq t t' && Nat.beq c c'
 |.bv t c,.bv t' c'=> Nat.beq t t' && Nat.beq c c'
 |.bl t c,.bl t' c'=> Nat.beq t t' && Nat.beq c c'
 |.br t c,.br t' c'=> Nat.beq t t' && Nat.beq c c'
 |.n t c,.n t' c'=> Nat.beq t t' && Nat.beq c c'
 |.bn t c,.bn t' c'=> Nat.beq t t' && Nat.beq c c'
 |_,_=> false
def ZMq (l:List (LQ×LQ)) (x:LQ×LQ):Bool:=l.any fun y=> LQ.beq x.1 y.1 && LQ.beq x.2 y.2
def ZSn:List (LQ×LQ)→List (LQ×LQ)
 |[]=> []
 |x::l=> let r:=ZSn l
  cond (ZMq r x) r (x::r)
def ZOU (a:SS) (ns:List SS):Nat→List (Option (List A))→List (Nat×List K)
 |_,[]=> []
 |i,none::l=> ZOU a ns (i+1) l
 |i,some x::l=> cond (ns.all fun a'=> match a'.blks[i]? with
  |some (some y)=> A.beqs x y
  |_=> false) (ZOU a ns (i+1) l) (match ZRj a x with
  |some ks=> (i,ks)::ZOU a ns (i+1) l
  |none=> ZOU a ns (i+1) l)
def Z2a (ns:List SS) (p:Nat×PK×Nat):Nat×PK×Nat:=
 cond (ns.all fun a'=> lv1 P KD a' p) p (p.1,p.2.1.weak,cond (ns.all fun a'=> lv1 P KD a' (p.1,p.2.1.weak,p.2.2)) p.2.2 1)
def Z19 (a:SS) (ns:List SS) (p:Nat×List K):Nat×List K:=
 cond (ns.all fun a'=> bl1 P KD a.blks.length a' p) p (p.1,p.2.map K.weak)
def ZPS:PK→Nat→List Nat
 |.one (.sl _ _ _),_=> [0]
 |.ag ks,_=> (ks.zipIdx.filter fun p=> match p.1 with
  |.sl _ _ _=> true
  |_=> false).map (·.2)
 |_,_=> []
def Z1G (lv:List (Nat×PK×Nat)) (bl:List (Nat×List K)) (iv:List (LQ×LQ×Int)):List (LQ×LQ):=
 (iv.filterMap fun c=> match c.1,c.2.1 with
  |.bv t k,.o (.l x)=> some (.o (.l x),.bv t k)
  |.bv t k,.o (.v x)=> some (.o (.v x),.bv t k)
  |.v t k,.o (.l x)=> some (.o (.l x),.v t k)
  |.v t k,.o (.v x)=> some (.o (.v x),.v t k)
  |.v t k,.o .z=> some (.o .z,.v t k)
  |_,_=> none)++(lv.flatMap fun p=> (ZPS p.2.1 0).flatMap fun c=> [(.r p.1 c,.o .z)])++(bl.flatMap fun p=> (ZPS (.ag p.2) 0).flatMap fun c=> [(.br p.1 c,.o .z)])++
 (lv.filterMap fun p=> match p.2.1 with
  |.one .idx=> some (.v p.1 0,.o .z)
  |.one (.int .i64)=> some (.v p.1 0,.o .z)
  |_=> none)
def Z2k (lv:List (Nat×PK×Nat)) (bl:List (Nat×List K)):List (LQ×LQ):=
 ((lqs lv).filter fun x=> match x with
   |.l _ _=> true
   |_=> false).flatMap fun x=> (lv.flatMap fun p=> match p.2.1 with
    |.ag _=> (ZPS p.2.1 0).map fun c=> (x,LQ.n p.1 c)
    |_=> [])++bl.flatMap fun p=> (ZPS (.ag p.2) 0).map fun c=> (x,LQ.bn p.1 c)
def ZTF (a I:SS) (lv:List (Nat×PK×Nat)):List Fact→List (Nat×TypeId×Nat)
 |[]=> []
 |.el z (.v x) k _ _::l=> (match ZFS a z with
  |some (.sl e false _)=> cond (decide (k=0) && Nat.blt z a.nx) ((lv.filter fun p=> match ZLe I p.1 with
   |some y=> Nat.beq x y
   |none=> false).map fun p=> (z,e,p.1)) []
  |_=> [])++ZTF a I lv l
 |_::l=> ZTF a I lv l
def ZRE (fst:Bool) (a:SS) (pl:Plan) (ns:List SS):Plan:=
 let I:=head pl a
 let bl:=match pl.bl with
  |[]=> ZOU a ns 0 a.blks
  |l=> l.map (Z19 P KD a ns)
 let lv:=pl.lv.map (Z2a P KD ns)
 let iv:=pl.iv.filter fun c=> ns.all fun a'=> iv1 a' c
 let fs:=match ns with
  |a'::_=> a'.fs
  |[]=> []
 let iv:=cond fst (iv++(ZSn (ZTo a I (lqs pl.lv++ZXj pl.bl) fs++pairs (ZXj bl)++Z2k lv bl)).flatMap (fun p=> bound a p.1 p.2)) iv
 let rfs:=cond fst ((ZTF a I pl.lv fs).filter fun c=> rf1 P KD (fun _=> none) a c && ns.all fun a'=> rf1 P KD (ZLe I) a' c) (pl.rfs.filter fun c=> ns.all fun a'=> rf1 P KD (ZLe I) a' c)
 let me:=match (Z1G lv bl iv).find? fun c=> ns.all fun a'=> ZRq {pl with mp:=c.1,mq:=c.2} I a' with
  |some c=> c
  |none=> (pl.mp,pl.mq)
 {ds:=pl.ds,lv:=lv,bl:=bl,ka:=pl.ka.filter fun x=> ns.all fun a'=> ZKK a'.ap x,iv:=iv,rfs:=rfs,mp:=me.1,mq:=me.2,ps:=pl.ps}
inductive LH where
 |tm (u:Nat)
 |rw (u:Nat)
 |en (u:Nat)
 |er (u:Nat)
 |bk (b:Nat)
def ZOq (a:SS):List LH→Option (List LA)
 |[]=> some []
 |.tm t::l=> (ZOq a l).map (.tm t::·)
 |.bk b::l=> (ZOq a l).map (.rw b::·)
 |.rw t::l=> match look a.regs t with
  |some (.loc b 0)=> (ZOq a l).map (.rw b::·)
  |_=> none
 |.er t::l=> match look a.regs t with
  |some (.loc b 0)=> match a.blks[b]? with
   |some (some x)=> (ZOq a l).map (.ov (.agg x)::·)
   |_=> none
  |_=> none
 |.en t::l=> match look a.regs t,ZOq a l with
  |some x,some xs=> some (.ov x::xs)
  |_,_=> none
def ZQk (a:SS):List ((List V→Prop)×List LH)→List ((List V→Prop)×List LA)
 |[]=> []
 |c::l=> match ZOq a c.2 with
  |some x=> (c.1,x)::ZQk a l
  |none=> ZQk a l
def ZNR:Code→Nat
 |.region id _ _=> id
 |.seq a _=> ZNR a
 |.cond _ a _=> ZNR a
 |.block _ b=> ZNR b
 |.loop b=> ZNR b
 |.scope b=> ZNR b
 |_=> 0
def ZX1 (a:SS) (c:(List V→Prop)×List LA):Option (List (E1×SS)):=
 match ZL6 a c.2 with
 |some l=> cond (A.bels a.nx 0 l) (some [(.vc c.1 l,a)]) none
 |none=> none
def psV (pl:Plan) (a:SS):Option (List (E1×SS)):=ZLi (ZX1 a) pl.ps
def ZSt (a:SS) (ls:List LQ):List Fact→List (LQ×LQ)
 |[]=> []
 |.c p q _::l=> (match ZOA a p ls with
  |some x=> cond (ZQr a q) [(x,LQ.o q)] []
  |none=> [])++(match ZOA a q ls with
  |some x=> cond (ZQr a p) [(LQ.o p,x)] []
  |none=> [])++ZSt a ls l
 |_::l=> ZSt a ls l
def Z12 (hs:List ((List V→Prop)×List LH)) (run:SS→Option (List (E1×SS))) (b:Code) (a:SS):Option Plan:=
 let lv:=lvs a (alias (ZMR b) (ZMD P b)) (ZMl b)
 let dropped:=lv.filterMap fun p=> ZLe a p.1
 let p0:Plan:=⟨ZMl b,lv,[],a.ap.filter (fun x=> !ZKK dropped x),(pairs (lqs lv)++ZSn (ZSt a (lqs lv) a.fs)).flatMap (fun p=> bound a p.1 p.2),[],.o .z,.o .z,ZQk a hs⟩
 match run (head p0 a) with
 |some o0=> let p1:=ZRE P KD true a p0 (ZOC o0)
  match run (head p1 a) with
  |some o1=> let p2:=ZRE P KD true a p1 (ZOC o1)
   match run (head p2 a) with
   |some o2=> let p3:=ZRE P KD false a p2 (ZOC o2)
    match run (head p3 a) with
    |some o3=> some (ZRE P KD false a p3 (ZOC o3))
    |none=> none
   |none=> none
  |none=> none
 |none=> none
def E1.un (id:Nat):E1→E1
 |.ext i=> cond (Nat.beq i id) .nrm (.ext i)
 |e=> e
def nrms (x:Option (List SS)):Option (List (E1×SS)):=match x with
 |some l=> some (l.map fun a=> (.nrm,a))
 |none=> none
structure Inl where
 l:List Nat
 lh:Nat→Nat→List ((List V→Prop)×List LH):=fun _ _=> []
 mks:List Mk2:=[]
 pl:Nat→Nat→Nat→Option Plan:=fun _ _ _=> none
variable (hint:Hint) (tab:List CE) (inl:Inl)
def ZM7 (run:RunT):ZPE:=fun a f xs=>
 match ZPQ P KD a f xs tab with
 |some r=> some r
 |none=> cond (ZKK inl.l f) (ZSY P hint run a f xs) none
def Z11 (p:Option Plan) (hs:List ((List V→Prop)×List LH)) (run:SS→Option (List (E1×SS))) (b:Code) (a:SS):Option Plan:=
 match p with
 |some p=> some {p with ds:=ZMl b,ps:=ZQk a hs}
 |none=> Z12 P KD hs run b a
def ZRJ (a:SS) (p:E1×SS):Option (List (E1×SS)):=
 match p.1 with
 |.ext _=> none
 |.vc _ _=> some [p]
 |_=> some [(match p.2.st with
  |0=> .nrm
  |1=> .ret
  |k+2=> .ext k,{p.2 with regs:=a.regs,st:=a.st})]
def ZRI (a:SS) (first cap:List A):SS:={regs:=ZO2 0 (first++(.s a.nx::cap)),blks:=a.blks,nx:=a.nx+1,syms:=a.syms,fs:=a.fs,ap:=a.ap,st:=0}
def ZRH (run:RunT) (fn n:Nat) (a:SS) (gf:Nat) (first cap:List A) (ps:List Tmp) (asg body:Code):Option (List (E1×SS)):=
 match P.funcs[gf]? with
 |some F=> match F.body with
  |some c=> cond (Nat.blt F.ntmps 1048576 && Nat.ble (first.length+cap.length+1) F.ntmps && !hint.frame gf && F.results.toList.isEmpty && A.bels a.nx a.blks.length first && A.bels a.nx a.blks.length cap)
   (match run ⟨false,some ⟨a.nx,fn,n,a.regs,ps,asg,body⟩⟩ gf F.ntmps c (ZRI a first cap) with
   |some outs=> ZLi (ZRJ a) outs
   |none=> none) none
  |none=> none
 |none=> none
def ZRR (a:SS) (outs:List (E1×SS)):Bool:=outs.all fun p=> !p.1.isN||Nat.beq p.2.st a.st
def sxC:Nat→RunT
 |0,_,_,_,_,_=> none
 |d+1,md,fn,n,c,a=> match c with
  |.skip=> some [(.nrm,a)]
  |.ret=> some [(.ret,a)]
  |.exit id=> some [(.ext id,a)]
  |.region id ops draw=> match hint.fix fn id with
   |[]=> cond draw (cond (ZFj ops) (nrms (sxD P KD hint (ZM7 P KD hint tab inl (sxC d)) fn n ops (Region.before ops).toList ops.toList 0 [] a)) none) (nrms (sxO P KD hint (ZM7 P KD hint tab inl (sxC d)) inl.mks (sxC d) md fn n ops ops.toList a))
   |_=> none
  |.seq x y=> match sxC d md fn n x a with
   |some l=> ZLi (fun p=> match p.1 with
    |.nrm=> sxC d md fn n y p.2
    |e=> some [(e,p.2)]) l
   |none=> none
  |.cond (.tmp t) x y=> match rdA n a (.tmp t) with
   |some v=> match truth a v with
    |some l=> ZLi (fun p=> cond p.1 (sxC d md fn n x p.2) (sxC d md fn n y p.2)) l
    |none=> none
   |none=> none
  |.block id b=> match sxC d md fn n b a with
   |some l=> some (l.map fun p=> (p.1.un id,p.2))
   |none=> none
  |.scope b=> sxC d md fn n b a
  |.loop b=> match Z11 P KD (inl.pl fn (ZNR b) a.nx) (inl.lh fn (ZNR b)) (sxC d md fn n b) b a with
   |some pl=> match sxC d md fn n b (head pl a) with
    |some outs=> cond (ZMv pl a && ZNj P KD pl a a (fun _=> none) && fitAll P KD pl a (head pl a) outs && Nat.beq (head pl a).st a.st && ZRR a outs) (match psV pl a,ZLi (psV pl) (ZOC outs) with
     |some v1,some v2=> some (v1++(v2++ZL3 outs))
     |_,_=> none) none
    |none=> none
   |none=> none
  |.rangeFunc (.tmp t) ps asg body=> cond md.rg (match rdA n a (.tmp t) with
   |some (.k (.fn (.func gf) l l'))=> ZRH P hint (sxC d) fn n a gf (l.map .k) (l'.map .k) ps.toList asg body
   |some (.fn gf l l')=> ZRH P hint (sxC d) fn n a gf l l' ps.toList asg body
   |_=> none) none
  |_=> none
end
end
section
section
variable {P:Program} {KD:TypeId→Bool→List K} {hint:Hint} {known:Known} {tab:List CE} {inl:Inl}
variable {n:Nat}
theorem ZN7.nrms {md:Md} {ys:YS} {dl:List D} {a:SS} {ρ:Nat→V} {m:Nat→Nat} {nb:Nat} {g:Nat→Blk} {outs:List SS} {l:List (E1×SS)} {x:Option (List (Ex×St))} (hy:YOk md.yc ys ρ m a nb g) (hm:ZKZ dl a.blks.length m nb g) (h:ZN7 P KD md ys dl a ρ m nb g n outs x) (hl:nrms (some outs)=some l):ZN8 P KD md ys dl a ρ m nb g n l x:=by
 obtain⟨a',h1,ρ',m',f',nb',g',d',h2,h3,hy',h4⟩:=h
 cases hl
 exact fun _=> ⟨_,List.mem_map_of_mem h1,rfl,ρ',m',f',nb',g',d',dl,h2,h3,⟨hy',hm.fwd h2 (ZZ1 hy),fun _=> rfl⟩,h4⟩
theorem ZXa {rs:List (Nat×A)} {a':SS}:∀{l:List (Nat×A)} {t:Nat} {x:A},keepR rs a' l=true→look rs t=some x→(∃y,(t,y)∈l)→look a'.regs t=some x
 |[],_,_,_,_,h=> by obtain⟨_,h⟩:=h;cases h
 |p::l,t,x,hk,hx,⟨y,hy⟩=> by
  unfold keepR at hk
  rw[Bool.and_eq_true] at hk
  rcases List.mem_cons.1 hy with rfl|hy
  ·have h1:=hk.1
   simp only at h1
   rw[hx] at h1
   simp only at h1
   split at h1
   ·rename_i z hz
    rw[hz,A.beq_eq h1]
   ·cases h1
  ·exact ZXa hk.2 hx ⟨y,hy⟩
theorem ZS9:∀{l l':List (Option (List A))} {b:Nat} {x:List A},ZMa l l'=true→l[b]?=some (some x)→l'[b]?=some (some x)
 |[],_,_,_,_,h=> by simp at h
 |none::l,[],b,x,hk,h=> by simp[ZMa] at hk
 |none::l,y::l',0,x,hk,h=> by simp at h
 |none::l,y::l',b+1,x,hk,h=> by
  rw[List.getElem?_cons_succ] at h⊢
  have hk:ZMa l l'=true:=hk
  exact ZS9 hk h
 |some z::l,[],b,x,hk,h=> by simp[ZMa] at hk
 |some z::l,none::l',b,x,hk,h=> by simp[ZMa] at hk
 |some z::l,some y::l',0,x,hk,h=> by
  have hk:(A.beqs z y && ZMa l l')=true:=hk
  rw[Bool.and_eq_true] at hk
  rw[←A.beqs_eq hk.1];exact h
 |some z::l,some y::l',b+1,x,hk,h=> by
  have hk:(A.beqs z y && ZMa l l')=true:=hk
  rw[Bool.and_eq_true] at hk
  rw[List.getElem?_cons_succ] at h⊢
  exact ZS9 hk.2 h
theorem Z1D {α:Type} {l:List (Nat×α)} {x:Nat} {v:α} (h:look l x=some v):(x,v)∈l:=by
 induction l with
 |nil=> cases h
 |cons p l ih=>
  obtain⟨y,w⟩:=p
  rw[ZMO] at h
  by_cases hx:x=y
  ·rw[if_pos hx] at h
   cases h
   subst hx
   exact List.mem_cons_self ..
  ·rw[if_neg hx] at h
   exact List.mem_cons_of_mem _ (ih h)
theorem ZX3 {ρ:Nat→V} {m:Nat→Nat} {a:SS} {f:Nat→V} {nb:Nat} {g:Nat→Blk} (h:Rel P KD ρ m a f nb g) {x:A} (hx:ZPx a x=true):V.pure (x.den ρ m)=true:=by
 cases x with
 |k v=> exact hx
 |s x=> exact(ZRA h hx).1
 |len x=> rfl
 |lit l n z=> rfl
 |ip l x=> rfl
 |_=> cases hx
theorem ZTA {ρ:Nat→V} {m:Nat→Nat} {a:SS} {f:Nat→V} {nb:Nat} {g:Nat→Blk} (h:Rel P KD ρ m a f nb g):∀{l:List A},l.all (ZPx a)=true→V.pures (A.dens ρ m l)=true
 |[],_=> rfl
 |x::l,hx=> by
  rw[List.all_cons,Bool.and_eq_true] at hx
  show(V.pure (x.den ρ m) && V.pures (A.dens ρ m l))=true
  rw[ZX3 h hx.1,ZTA h hx.2];rfl
theorem Z17 {ρ:Nat→V} {m:Nat→Nat} {a:SS} {f:Nat→V} {nb:Nat} {g:Nat→Blk} (h:Rel P KD ρ m a f nb g) {x:A} (hx:ZPy a x=true):V.pure (x.den ρ m)=true:=by
 unfold ZPy at hx
 split at hx
 ·exact ZTA h hx
 ·exact ZX3 h hx
theorem Z1F (hKD:∀e,(KD e true).length=(KD e false).length) {ρ:Nat→V} {m:Nat→Nat} {a':SS} {f:Nat→V} {nb:Nat} {g:Nat→Blk} (h:Rel P KD ρ m a' f nb g) {p:Nat×PK×Nat} (hp:lv1 P KD a' p=true):LvOk P KD nb g p (f p.1):=by
 unfold lv1 at hp
 split at hp
 ·rename_i y hy
  rw[Bool.and_eq_true,Bool.and_eq_true,Bool.or_eq_true,Bool.or_eq_true] at hp
  obtain⟨⟨h1,h2⟩,h3⟩:=hp
  have hk:=ZSC h hKD h1
  have hv:=(h.regs _ y hy).1
  rw[hv]
  refine⟨hk,fun hh=> ?_,fun hm=> ?_⟩
  ·rcases h2 with h2|h2
   ·rw[Bool.and_eq_true] at h2
    rcases hh with hh|⟨cs,hcs⟩
    ·rw[hh] at h2;cases h2.1
    ·cases hpk:p.2.1 with
     |one k=>
      rw[hpk,hcs] at hk
      cases hk
     |ag ks=> rw[hpk] at h2;cases h2.2
     |tt b=> rw[hpk] at h2;cases h2.2
     |fc f=> rw[hpk] at h2;cases h2.2
     |ci k n=> rw[hpk] at h2;cases h2.2
   ·exact Z17 h h2
  ·rcases h3 with h3|h3
   ·rw[hm] at h3;cases h3
   ·rw[Bool.and_eq_true] at h3
    refine⟨?_,?_⟩
    ·have h4:=h3.1
     unfold apA at h4
     split at h4
     ·exact(h.ap _ (ZMQ h4)).2
     ·exact Or.inl rfl
     ·exact Or.inr (Or.inl ⟨_,_,_,rfl⟩)
     ·cases h4
    ·cases hpk:p.2.1 with
     |one k=> exact⟨k,rfl⟩
     |ag ks=> rw[hpk] at h3;cases h3.2
     |tt b=> rw[hpk] at h3;cases h3.2
     |fc f=> rw[hpk] at h3;cases h3.2
     |ci k n=> rw[hpk] at h3;cases h3.2
 ·cases hp
theorem ZZs {ρ:Nat→V} {m:Nat→Nat} {a':SS} {y:A} {r:Nat} (h:apA a' y=true) (ht:ZCj (y.den ρ m)=some r):∃x,y=.s x∧x∈a'.ap:=by
 unfold apA at h
 split at h
 ·exact⟨_,rfl,ZMQ h⟩
 ·cases ht
 ·cases ht
 ·cases h
theorem ZTn {ρ:Nat→V} {m:Nat→Nat} {a':SS} {f:Nat→V} {nb:Nat} {g:Nat→Blk} (h:Rel P KD ρ m a' f nb g) {p:Nat×PK×Nat} (hp:lv1 P KD a' p=true) (hm:p.2.2=2) {r:Nat} (hr:ZCj (f p.1)=some r):∃x,ZLe a' p.1=some x∧x∈a'.ap∧f p.1=ρ x:=by
 unfold lv1 at hp
 split at hp
 ·rename_i y hy
  rw[Bool.and_eq_true,Bool.and_eq_true,Bool.or_eq_true,Bool.or_eq_true] at hp
  rcases hp.2 with h3|h3
  ·rw[hm] at h3;cases h3
  ·rw[Bool.and_eq_true] at h3
   have hv:=(h.regs _ y hy).1
   rw[hv] at hr
   obtain⟨x,rfl,hx⟩:=ZZs h3.1 hr
   exact⟨x,by unfold ZLe;rw[hy],hx,hv⟩
 ·cases hp
theorem ZUZ {ρ ρ':Nat→V} {m:Nat→Nat} {a':SS} {f:Nat→V} {nb:Nat} {g:Nat→Blk} (h:Rel P KD ρ' m a' f nb g) {ka:List Nat} (hka:∀x∈ka,x∈a'.ap∧ρ' x=ρ x):∀{l:List (Nat×PK×Nat)},l.all (lv1 P KD a')=true→ZPK a' ka l=true→Apart ρ f ka l
 |[],_,_=> trivial
 |p::l,hl,hp=> by
  rw[List.all_cons,Bool.and_eq_true] at hl
  have hp:((!Nat.beq p.2.2 2||(match ZLe a' p.1 with
   |some x=> !ZKK ka x && l.all (fun q=> !Nat.beq q.2.2 2||(match ZLe a' q.1 with
    |some y=> !Nat.beq x y
    |none=> true))
   |none=> true)) && ZPK a' ka l)=true:=hp
  rw[Bool.and_eq_true,Bool.or_eq_true] at hp
  refine⟨fun hm=> ?_,ZUZ h hka hl.2 hp.2⟩
  have hp1:(match ZLe a' p.1 with
   |some x=> !ZKK ka x && l.all (fun q=> !Nat.beq q.2.2 2||(match ZLe a' q.1 with
    |some y=> !Nat.beq x y
    |none=> true))
   |none=> true)=true:=by
   rcases hp.1 with h1|h1
   ·rw[hm] at h1;cases h1
   ·exact h1
  have memN_of:∀{l:List Nat} {x:Nat},x∈l→ZKK l x=true:=by
   intro l
   induction l with
   |nil=> intro x hx;cases hx
   |cons y l ih=>
    intro x hx
    show(Nat.beq x y||ZKK l x)=true
    rw[Bool.or_eq_true]
    rcases List.mem_cons.1 hx with rfl|hx
    ·exact Or.inl (Nat.beq_refl _)
    ·exact Or.inr (ih hx)
  refine⟨fun x hx r hr=> ?_,fun q hq hq2 r hr=> ?_⟩
  ·obtain⟨y,e1,e2,e3⟩:=ZTn h hl.1 hm hr
   rw[e1] at hp1
   simp only at hp1
   rw[Bool.and_eq_true] at hp1
   have hne:y≠x:=fun hh=> by
    subst hh
    rw[memN_of hx] at hp1
    cases hp1.1
   rw[e3] at hr
   rw[←(hka x hx).2]
   exact h.apn y e2 x (hka x hx).1 hne r hr
  ·obtain⟨y,e1,e2,e3⟩:=ZTn h hl.1 hm hr
   intro hqr
   obtain⟨z,z1,z2,z3⟩:=ZTn h (List.all_eq_true.1 hl.2 q hq) hq2 hqr
   rw[e1] at hp1
   simp only at hp1
   rw[Bool.and_eq_true] at hp1
   have h1:=List.all_eq_true.1 hp1.2 q hq
   rw[Bool.or_eq_true] at h1
   rcases h1 with h1|h1
   ·rw[hq2] at h1;cases h1
   ·rw[z1] at h1
    have hne:=ZOB h1
    rw[e3] at hr
    rw[z3] at hqr
    exact h.apn y e2 z z2 hne r hr hqr
theorem ZZG (hKD:∀e,(KD e true).length=(KD e false).length) {ρ:Nat→V} {m:Nat→Nat} {a':SS} {f:Nat→V} {nb len:Nat} {g:Nat→Blk} (h:Rel P KD ρ m a' f nb g) {p:Nat×List K} (hp:bl1 P KD len a' p=true):ZR1 P KD m len g p:=by
 unfold bl1 at hp
 rw[Bool.and_eq_true] at hp
 refine⟨ZGM hp.1,?_⟩
 have h1:=hp.2
 split at h1
 ·rename_i y hy
  rw[Bool.and_eq_true] at h1
  exact⟨_,(h.blks _ y hy).1,ZOk h hKD h1.1,ZTA h h1.2⟩
 ·cases h1
def ZN6 (P:Program) (KD:TypeId→Bool→List K) (pl:Plan) (a':SS):Prop:=
 ∀c∈pl.ps,∃l,ZL6 a' c.2=some l∧A.bels a'.nx 0 l=true∧∀ρ m f nb g,Rel P KD ρ m a' f nb g→c.1 (A.dens ρ (fun _=> 0) l)
theorem ZX2 {pl:Plan} {a':SS} {v:List (E1×SS)} (h:psV pl a'=some v) (hv:∀p∈v,ZK7 P KD p):ZN6 P KD pl a':=by
 intro c hc
 obtain⟨s,hs,hsub⟩:=ZK8 h hc
 unfold ZX1 at hs
 split at hs
 ·rename_i l hl
  cases hb:A.bels a'.nx 0 l with
  |false=> rw[hb] at hs;cases hs
  |true=>
   rw[hb] at hs
   cases hs
   exact⟨l,hl,hb,hv _ (hsub _ (List.mem_cons_self ..))⟩
 ·cases hs
theorem ZVH (hKD:∀e,(KD e true).length=(KD e false).length) {ρ ρ':Nat→V} {m m':Nat→Nat} {a a':SS} {f0 f:Nat→V} {nb0 nb:Nat} {g0 g:Nat→Blk} {pl:Plan} (hold:ZMv pl a=true) (hkan:∀x∈pl.ka,x < a.nx)
 (h0:Rel P KD ρ m {(headA pl a) with ap:=[]} f0 nb0 g0) (hr:∀y,y < a.nx→ρ' y=ρ y) (hm:∀c,c < a.blks.length→m' c=m c) (hnb:nb0≤nb) (h:Rel P KD ρ' m' a' f nb g) {xI:Nat→Option Nat} (hf:ZNj P KD pl a a' xI=true)
 (hxI:∀c∈pl.rfs,∀x,xI c.2.2=some x→∀cs len sz o,ρ c.1=.vs cs len sz o→∀N:Nat,(N:Int) < V.intN (ρ' x)→N < len→∃a b,cs.drop (N * sz)=a++b∧TKs P KD (KD c.2.1 true) a) (hps:ZN6 P KD pl a'):
 Inv P KD ρ m pl a f nb g:=by
 unfold ZNj at hf
 rw[Bool.and_eq_true,Bool.and_eq_true,Bool.and_eq_true,Bool.and_eq_true,Bool.and_eq_true,Bool.and_eq_true,Bool.and_eq_true] at hf
 obtain⟨⟨⟨⟨⟨⟨⟨k1,k2⟩,k3⟩,k4⟩,k5⟩,k6⟩,k7⟩,k8⟩:=hf
 unfold ZMv at hold
 rw[Bool.and_eq_true,Bool.and_eq_true,Bool.and_eq_true,Bool.and_eq_true,List.all_eq_true,List.all_eq_true,List.all_eq_true] at hold
 obtain⟨⟨⟨⟨hold0,hold1⟩,hold2⟩,hold3⟩,hold4⟩:=hold
 have hlen:(headA pl a).blks.length=a.blks.length:=ZP2
 have hka:∀x∈pl.ka,x∈a'.ap∧ρ' x=ρ x:=fun x hx=> ⟨ZMQ (List.all_eq_true.1 k6 x hx),hr x (hkan x hx)⟩
 refine⟨?_,fun p hp=> Z1F hKD h (List.all_eq_true.1 k3 p hp),ZUZ h hka k3 k4,fun p hp=> ?_,fun c hc=> ?_,fun c hc cs len sz o hx N hN hl=> ?_,fun c hc=> ?_⟩
 rotate_left 4
 ·obtain⟨l,hl,hb,hq⟩:=hps c hc
  have:=hq _ _ _ _ _ h
  rw[ZPe h hl hb,LA.old_val hr hm (hold0 c hc)] at this
  exact this
 ·exact {
   regs:=fun t x hx=> by
    obtain⟨-,hb⟩:=h0.regs t x hx
    have hx':=ZXa k1 hx ⟨x,Z1D hx⟩
    refine⟨?_,hb⟩
    rw[(h.regs t x hx').1]
    exact A.den_congr hr (fun c hc=> hm c (by rw[←hlen];exact hc)) x hb
   blks:=fun b l hl=> by
    obtain⟨-,hb⟩:=h0.blks b l hl
    have hl':=ZS9 k2 hl
    have hbl:b < a.blks.length:=by rw[←hlen];exact(List.getElem?_eq_some_iff.1 hl).1
    refine⟨?_,hb⟩
    rw[←hm b hbl,(h.blks b l hl').1,A.dens_congr hr (fun c hc=> hm c (by rw[←hlen];exact hc)) l hb]
   inj:=h0.inj
   lt:=fun b hb=> Nat.lt_of_lt_of_le (h0.lt b hb) hnb
   syms:=h0.syms
   fs:=h0.fs
   ap:=fun x hx=> ⟨hkan x hx,by rw[←(hka x hx).2];exact(h.ap x (hka x hx).1).2⟩
   apn:=fun x hx y hy=> by
    rw[←(hka x hx).2,←(hka y hy).2]
    exact h.apn x (hka x hx).1 y (hka y hy).1}
 ·obtain⟨q1,cs,q2,q3⟩:=ZZG hKD h (List.all_eq_true.1 k5 p hp)
  exact⟨q1,cs,by rw[←hm _ q1];exact q2,q3⟩
 ·have h1:=List.all_eq_true.1 k7 c hc
  have ho:=hold1 c hc
  rw[Bool.and_eq_true] at ho
  unfold iv1 at h1
  split at h1
  ·rename_i p i q j hp hq
   obtain⟨e1, -⟩:=ZL7 h hp
   obtain⟨e2, -⟩:=ZL7 h hq
   have h2:=ZGI h h1
   rw[←LQ.old_val hr hm ho.1,←LQ.old_val hr hm ho.2]
   omega
  ·cases h1
 ·have h1:=List.all_eq_true.1 k8 c hc
  have ho:=ZGM (hold2 c hc)
  unfold rf1 at h1
  split at h1
  ·rename_i q k hq
   obtain⟨e1, -⟩:=ZL7 h hq
   have hN':(N:Int) < q.val ρ'+k:=by rw[←e1];exact hN
   rw[Bool.or_eq_true] at h1
   rcases h1 with h1|h1
   ·have:=ZGI h h1
    rw[ZKL] at this
    omega
   ·split at h1
    ·rename_i x hx'
     rw[Bool.and_eq_true,Bool.and_eq_true] at h1
     obtain⟨⟨h2,h3⟩,h4⟩:=h1
     have h2:=ZGI h h2
     have h2':q.val ρ' - V.intN (ρ' x)≤1 - k:=h2
     by_cases hlt:(N:Int) < V.intN (ρ' x)
     ·exact hxI c hc x hx' cs len sz o hx N hlt hl
     ·have hNe:(N:Int)=V.intN (ρ' x):=by omega
      split at h4
      ·rename_i b' n' hel
       obtain⟨-,cs',len',sz',o',N',e2,e3,e4,e5⟩:=h.fs _ (ZSy hel)
       rw[hr _ ho,hx] at e2
       cases e2
       have e3':(N':Int)=V.intN (ρ' x)+0:=e3
       have:N'=N:=by omega
       subst this
       have ht:=ZOk h hKD h4
       rw[ZPZ] at ht
       exact⟨_,_,e5,ht⟩
      ·cases h4
    ·cases h1
  ·cases h1
theorem ZVF {pl:Plan} {a I:SS}:∀{l:List (E1×SS)} {p:E1×SS},fitAll P KD pl a I l=true→p∈l→p.1=.nrm→ZNj P KD pl a p.2 (ZLe I)=true∧ZRq pl I p.2=true
 |[],_,_,h,_=> by cases h
 |q::l,p,hf,hp,hn=> by
  unfold fitAll at hf
  rw[Bool.and_eq_true] at hf
  rcases List.mem_cons.1 hp with rfl|hp
  ·have h1:=hf.1
   rw[hn] at h1
   simp only at h1
   rw[Bool.and_eq_true] at h1
   exact h1
  ·exact ZVF hf.2 hp hn
theorem ZP4:∀{l:List (E1×SS)} {p:E1×SS},p∈l→p.1.isN=false→p∈ZL3 l
 |[],_,h,_=> by cases h
 |q::l,p,h,hn=> by
  unfold ZL3
  rcases List.mem_cons.1 h with rfl|h
  ·rw[hn];exact List.mem_cons_self ..
  ·cases hq:q.1.isN with
   |true=> exact ZP4 h hn
   |false=> exact List.mem_cons_of_mem _ (ZP4 h hn)
theorem E1.isN_of {e:E1} (h:e.isN=true):e=.nrm:=by cases e <;> first|rfl|cases h
theorem E1.ex_ne {e:E1} (h0:e.real=true) (h:e.isN=false):e.ex≠.normal:=by cases e <;> first|(cases h;done)|(cases h0;done)|exact fun hh=> by cases hh
theorem ZZd {e:Ex} {s:St} {k:St→Option (List (Ex×St))} (h:e≠.normal):thenV (some [(e,s)]) k=some [(e,s)]:=by
 cases e <;> first|exact absurd rfl h|rfl
def meV (pl:Plan) (ρ f:Nat→V) (w:Nat→List V):Int:=pl.mp.val ρ f w - pl.mq.val ρ f w
theorem Z2D {ρ:Nat→V} {m:Nat→Nat} {a:SS} {f:Nat→V} {nb:Nat} {g:Nat→Blk} (h:Rel P KD ρ m a f nb g) {t x:Nat} (hx:ZLe a t=some x):f t=ρ x∧x < a.nx:=by
 unfold ZLe at hx
 split at hx
 ·rename_i y hy
  cases hx
  exact⟨(h.regs t _ hy).1,ZGM (h.regs t _ hy).2⟩
 ·cases hx
theorem Z1E (hKD:∀e,(KD e true).length=(KD e false).length) {md:Md} {ys:YS} {dl0:List D} {fn:FuncId} {r:Option Nat} {b:Code} {pl:Plan} {a:SS} {outs:List (E1×SS)} {ρ:Nat→V} {m:Nat→Nat} {nb0:Nat} {g0:Nat→Blk} (hold:ZMv pl a=true)
 (ht:∀e∈tab,CE.ok P KD hint known ρ a.nx e)
 (run:∀{ρ':Nat→V} {f:Nat→V} {nb:Nat} {g:Nat→Blk} {d:List Nat} {dl:List D},Rel P KD ρ' m (head pl a) f nb g→YOk md.yc ys ρ' m (head pl a) nb g→ZKZ dl (head pl a).blks.length m nb g→(∀e∈tab,CE.ok P KD hint known ρ' (head pl a).nx e)→ZN8 P KD md ys dl (head pl a) ρ' m nb g n outs (Qc P hint known ⟨fn,r⟩ b (S n f dl (mkH nb g d))))
 (hst:(head pl a).st=a.st) (hsa:ZRR a outs=true)
 (hfit:fitAll P KD pl a (head pl a) outs=true) (hvx:∀p∈ZL3 outs,ZK7 P KD p) (hvn:∀p∈outs,p.1=.nrm→ZN6 P KD pl p.2) (f:Nat→V) (nb:Nat) (g:Nat→Blk) (d:List Nat) (dl:List D) (hnb:nb0≤nb) (hfr:ZMB (ZMm md.yc ys) a.blks.length m nb0 g0 g) (h:Inv P KD ρ m pl a f nb g)
 (hy:YOk md.yc ys ρ m a nb g) (hmk:ZKZ dl a.blks.length m nb g) (hdl:md.rg=false→dl=dl0) (hn0:∀c,c < a.blks.length→m c < nb0):
 Came P KD md ys dl0 a ρ m nb0 g0 n (ZL3 outs) (Qc P hint known ⟨fn,r⟩ (.loop b) (S n f dl (mkH nb g d)))∨
 ∃f' nb' g' d' dl',nb0≤nb'∧ZMB (ZMm md.yc ys) a.blks.length m nb0 g0 g'∧Inv P KD ρ m pl a f' nb' g'∧YOk md.yc ys ρ m a nb' g'∧ZKZ dl' a.blks.length m nb' g'∧(md.rg=false→dl'=dl0)∧
  Qc P hint known ⟨fn,r⟩ (.loop b) (S n f dl (mkH nb g d))=Qc P hint known ⟨fn,r⟩ (.loop b) (S n f' dl' (mkH nb' g' d'))∧0≤meV pl ρ f (ZGJ g m)∧meV pl ρ f' (ZGJ g' m)≤meV pl ρ f (ZGJ g m) - 1:=by
 obtain⟨ρI,i1,i2,i3,i4⟩:=Z0p pl hold h
 have hfwd:∀{ex:Option Nat},Fwd ex a ρ m nb g (head pl a) ρI m nb g:=⟨⟨i1,fun _ _=> rfl⟩,i3,.len i4,.refl,Nat.le_refl _⟩
 obtain⟨p,p1,p0,ρ',m',f',nb',g',d',dl',p2,p3,pm,p4⟩:=run (d:=d) i2 (hy.fwd hfwd hst) (by rw[i4];exact hmk) (fun e he=> (ht e he).fwd (ex:=none) (hfwd (ex:=none))) fun p hp=> by
  cases hN:p.1.isN with
  |false=> exact hvx p (ZP4 hp hN)
  |true=> unfold ZK7;rw[E1.isN_of hN];trivial
 rw[ZG (b:=b) rfl,p4]
 have hdl':md.rg=false→dl'=dl0:=fun hr=> (pm.dl hr).trans (hdl hr)
 have frr:ZMB (ZMm md.yc ys) a.blks.length m nb0 g0 g':=fun x hx he hm ht=> by
  have e1:=hfr x hx he hm ht
  have hx':x < nb:=Nat.lt_of_lt_of_le hx hnb
  rw[p2.fr x hx' he (fun c hc=> hm c (by rw[←i4];exact hc)) (by rw[e1];exact ht),e1]
 cases hN:p.1.isN with
 |false=>
  left
  have h0:Fwd (ZMm md.yc ys) a ρ m nb0 g0 p.2 ρ' m' nb' g':=by
   have hall:=hfwd.trans p2
   exact⟨hall.ext,hall.nx,⟨hall.len.1,fun b h1 h2=> Nat.le_trans hnb (hall.len.2 b h1 h2)⟩,frr,Nat.le_trans hnb hall.nb⟩
  exact⟨p,ZP4 p1 hN,p0,ρ',m',f',nb',g',d',dl',h0,p3,⟨pm.y,pm.mks,hdl'⟩,ZZd (E1.ex_ne p0 hN)⟩
 |true=>
  right
  have hn:=E1.isN_of hN
  obtain⟨q1,q2⟩:=ZVF hfit p1 hn
  have hall:=hfwd.trans p2
  have hrel0:Rel P KD ρ m {(headA pl a) with ap:=[]} f nb g:=h.rel.sub fun x hx=> by cases hx
  have hinv:=ZVH hKD hold (fun x hx=> (h.rel.ap x hx).1) hrel0 hall.ext.r hall.ext.m p2.nb p3 q1 (hps:=hvn p p1 hn) fun c hc x hx cs len sz o hv N hlt hl=> by
   obtain⟨e1,e2⟩:=Z2D i2 hx
   refine h.rfs c hc cs len sz o hv N ?_ hl
   show(N:Int) < V.intN (cellC (f c.2.2) 0)
   rw[p2.ext.r x e2,←e1] at hlt
   have:V.intN (cellC (f c.2.2) 0)=V.intN (f c.2.2)∨∃cs,f c.2.2=.agg cs:=by
    cases f c.2.2 <;> first|exact Or.inl rfl|exact Or.inr ⟨_,rfl⟩
   rcases this with hh|⟨cs,hh⟩
   ·rw[hh];exact hlt
   ·rw[hh] at hlt
    exact absurd hlt (by show¬((N:Int) < 0);omega)
  have hst2:p.2.st=a.st:=by
   have h1:=List.all_eq_true.1 hsa p p1
   rw[hN] at h1
   exact Nat.eq_of_beq_eq_true h1
  have hlen2:a.blks.length≤p.2.blks.length:=hall.len.1
  have hy2:YOk md.yc ys ρ m a nb' g':=fun yc hyc=> by
   have Y:=pm.y yc hyc
   have Y0:=hy yc hyc
   exact {
    lt:=Y.lt
    nim:=Y0.nim
    blk:=by rw[Y.blk,hst2]
    regs:=Y0.regs
    sym:=Y0.sym
    xlt:=Y0.xlt}
  have hmk2:ZKZ dl' a.blks.length m nb' g':=⟨pm.mks.1,fun D hD=> by
   obtain⟨r,r1,r2,r3,r4⟩:=pm.mks.2 D hD
   exact⟨r,r1,r2,fun c hc=> by rw[←hall.ext.m c hc];exact r3 c (Nat.lt_of_lt_of_le hc hlen2),r4⟩⟩
  refine⟨f',nb',g',d',dl',Nat.le_trans hnb p2.nb,frr,hinv,hy2,hmk2,hdl',?_,?_⟩
  ·rw[hn];rfl
  ·unfold ZMv at hold
   rw[Bool.and_eq_true,Bool.and_eq_true] at hold
   unfold ZRq at q2
   split at q2
   ·rename_i p0 i0 q0 j0 p0' i0' q0' j0' m1 m2 m3 m4
    rw[Bool.and_eq_true] at q2
    obtain⟨q2,q3⟩:=q2
    obtain⟨e1,b1⟩:=ZL7 i2 m1
    obtain⟨e2,b2⟩:=ZL7 i2 m2
    obtain⟨e3,b3⟩:=ZL7 p3 m3
    obtain⟨e4,b4⟩:=ZL7 p3 m4
    have v1:p0.val ρ'=p0.val ρI:=Q.val_congr b1 p2.ext.r
    have v2:q0.val ρ'=q0.val ρI:=Q.val_congr b2 p2.ext.r
    have o1:pl.mp.val ρ f (ZGJ g m)=pl.mp.val ρI f (ZGJ g m):=(LQ.old_val i1 (fun _ _=> rfl) hold.1.2).symm
    have o2:pl.mq.val ρ f (ZGJ g m)=pl.mq.val ρI f (ZGJ g m):=(LQ.old_val i1 (fun _ _=> rfl) hold.2).symm
    have o3:pl.mp.val ρ f' (ZGJ g' m)=pl.mp.val ρ' f' (ZGJ g' m'):=(LQ.old_val hall.ext.r hall.ext.m hold.1.2).symm
    have o4:pl.mq.val ρ f' (ZGJ g' m)=pl.mq.val ρ' f' (ZGJ g' m'):=(LQ.old_val hall.ext.r hall.ext.m hold.2).symm
    have c1:=ZGI p3 q2
    unfold meV
    rw[o1,o2,o3,o4,e1,e2,e3,e4]
    rw[v1,v2] at c1
    refine⟨by omega,?_⟩
    rw[Bool.or_eq_true,Bool.and_eq_true,Bool.and_eq_true] at q3
    rcases q3 with ⟨q3,q4⟩|⟨q3,q4⟩
    ·have c2:=ZGI p3 q3
     have c3:=ZGI p3 q4
     rw[v1] at c2
     rw[v2] at c3
     omega
    ·have c2:=ZGI p3 q3
     have c3:=ZGI p3 q4
     rw[v1] at c2
     rw[v2] at c3
     omega
   ·cases q2
theorem ZXi (hKD:∀e,(KD e true).length=(KD e false).length) {md:Md} {ys:YS} {dl0:List D} {fn:FuncId} {r:Option Nat} {b:Code} {pl:Plan} {a:SS} {outs:List (E1×SS)} {ρ:Nat→V} {m:Nat→Nat} {nb0:Nat} {g0:Nat→Blk} (hold:ZMv pl a=true)
 (ht:∀e∈tab,CE.ok P KD hint known ρ a.nx e)
 (run:∀{ρ':Nat→V} {f:Nat→V} {nb:Nat} {g:Nat→Blk} {d:List Nat} {dl:List D},Rel P KD ρ' m (head pl a) f nb g→YOk md.yc ys ρ' m (head pl a) nb g→ZKZ dl (head pl a).blks.length m nb g→(∀e∈tab,CE.ok P KD hint known ρ' (head pl a).nx e)→ZN8 P KD md ys dl (head pl a) ρ' m nb g n outs (Qc P hint known ⟨fn,r⟩ b (S n f dl (mkH nb g d))))
 (hst:(head pl a).st=a.st) (hsa:ZRR a outs=true)
 (hfit:fitAll P KD pl a (head pl a) outs=true) (hvx:∀p∈ZL3 outs,ZK7 P KD p) (hvn:∀p∈outs,p.1=.nrm→ZN6 P KD pl p.2) (hn0:∀c,c < a.blks.length→m c < nb0):
 ∀(M:Nat) (f:Nat→V) (nb:Nat) (g:Nat→Blk) (d:List Nat) (dl:List D),nb0≤nb→ZMB (ZMm md.yc ys) a.blks.length m nb0 g0 g→Inv P KD ρ m pl a f nb g→YOk md.yc ys ρ m a nb g→ZKZ dl a.blks.length m nb g→(md.rg=false→dl=dl0)→meV pl ρ f (ZGJ g m) < M→
  Came P KD md ys dl0 a ρ m nb0 g0 n (ZL3 outs) (Qc P hint known ⟨fn,r⟩ (.loop b) (S n f dl (mkH nb g d)))
 |M,f,nb,g,d,dl,hnb,hfr,h,hy,hmk,hdl,hM=> by
  rcases Z1E hKD hold ht run hst hsa hfit hvx hvn f nb g d dl hnb hfr h hy hmk hdl hn0 with hw|⟨f',nb',g',d',dl',r1,rf,r2,ry,rm,rd,r5,e1,e2⟩
  ·exact hw
  ·cases M with
   |zero=> omega
   |succ M=>
    rw[r5]
    exact ZXi hKD hold ht run hst hsa hfit hvx hvn hn0 M f' nb' g' d' dl' r1 rf r2 ry rm rd (by omega)
theorem ZYh {run:RunT} (hrun:ZMj P KD hint known tab run) {md:Md} {ys:YS} {dl:List D} (hrg:md.rg=true) {fn:FuncId} {a:SS} {ρ:Nat→V} {m:Nat→Nat} {f:Nat→V} {nb:Nat} {g:Nat→Blk} {d:List Nat} (h:Rel P KD ρ m a f nb g) (hy:YOk md.yc ys ρ m a nb g) (hmk:ZKZ dl a.blks.length m nb g) (ht:∀e∈tab,CE.ok P KD hint known ρ a.nx e)
 {t:Tmp} {gf:FuncId} {first cap:List A} (hf:(S n f dl (mkH nb g d)).regs.get ZmM t=V.fn (.func gf) (A.dens ρ m first) (A.dens ρ m cap)) {pa:Array Tmp} {asg body:Code} {outs:List (E1×SS)} (hr:ZRH P hint run fn n a gf first cap pa.toList asg body=some outs):
 ZN8 P KD md ys dl a ρ m nb g n outs (Qc P hint known ⟨fn,none⟩ (.rangeFunc (.tmp t) pa asg body) (S n f dl (mkH nb g d))):=by
 intro hv
 unfold ZRH at hr
 split at hr
 ·rename_i F hF
  split at hr
  ·rename_i c hc
   cases hb:Nat.blt F.ntmps 1048576 && Nat.ble (first.length+cap.length+1) F.ntmps && !hint.frame gf && F.results.toList.isEmpty && A.bels a.nx a.blks.length first && A.bels a.nx a.blks.length cap with
   |false=> rw[hb] at hr;cases hr
   |true=>
    rw[hb] at hr
    simp only[cond_true] at hr
    rw[Bool.and_eq_true,Bool.and_eq_true,Bool.and_eq_true,Bool.and_eq_true,Bool.and_eq_true] at hb
    obtain⟨⟨⟨⟨⟨b1,b2⟩,b3⟩,b4⟩,b5⟩,b6⟩:=hb
    have b3:hint.frame gf=false:=by simpa using b3
    have b4:F.results.toList=[]:=List.isEmpty_iff.1 b4
    have b1:=ZGM b1
    have b2:=Nat.le_of_ble_eq_true b2
    split at hr
    ·rename_i outs0 ho
     let Y:V:=.fn (.yield (nb+1)) [] []
     let LP:Blk:=.loop fn (mkT 20 n f) pa.toList asg body none .ready nb
     let g2:Nat→Blk:=atB (atB g nb .dfr) (nb+1) LP
     let ρ1:Nat→V:=at1 ρ a.nx Y
     have e1:∀y,y < a.nx→ρ1 y=ρ y:=fun y hy=> QF _ _ (by omega)
     have hd1:A.dens ρ1 m first=A.dens ρ m first:=A.dens_congr e1 (fun _ _=> rfl) _ b5
     have hd2:A.dens ρ1 m cap=A.dens ρ m cap:=A.dens_congr e1 (fun _ _=> rfl) _ b6
     have hdx:A.dens ρ1 m (first++(.s a.nx::cap))=A.dens ρ m first++[Y]++A.dens ρ m cap:=by
      rw[ZLa,hd1,List.append_assoc]
      show _++(ρ1 a.nx::A.dens ρ1 m cap)=_
      rw[hd2,show ρ1 a.nx=Y from zag _ _ _];rfl
     have hbx:A.bels (a.nx+1) a.blks.length (first++(.s a.nx::cap))=true:=ZM6 (A.bels_le (Nat.le_succ _) (Nat.le_refl _) _ b5) (by
      show(Nat.blt a.nx (a.nx+1) && A.bels (a.nx+1) a.blks.length cap)=true
      rw[ZKy (Nat.lt_succ_self _),A.bels_le (Nat.le_succ _) (Nat.le_refl _) _ b6];rfl)
     have h0:Rel P KD ρ1 m (a.fresh none) f (nb+2) g2:=((h.fresh (v:=Y) (i:=none) (fun j hj=> by cases hj)).more .dfr).more LP
     have RI:Rel P KD ρ1 m (ZRI a first cap) (ZCl (A.dens ρ m first++[Y]++A.dens ρ m cap) 0 fun _=> ZmM) (nb+2) g2:={
      regs:=fun t x hx=> by
       obtain⟨-,h2⟩:=ZTm hx
       rw[Nat.sub_zero] at h2
       refine⟨?_,ZPP hbx h2⟩
       have:=ZRN (A.dens ρ m first++[Y]++A.dens ρ m cap) 0 (fun _=> ZmM) t (x.den ρ1 m) (by rw[←hdx,ZLp,h2];rfl)
       rw[Nat.zero_add] at this
       exact this
      blks:=h0.blks
      inj:=h0.inj
      lt:=h0.lt
      syms:=h0.syms
      fs:=h0.fs
      ap:=h0.ap
      apn:=h0.apn}
     have YI:YRel ⟨a.nx,fn,n,a.regs,pa.toList,asg,body⟩ ⟨nb+1,nb,f⟩ ρ1 m (ZRI a first cap) (nb+2) g2:={
      lt:=Nat.lt_succ_self _
      nim:=fun c hc=> by
       have:=h.lt c hc
       show m c≠nb+1
       omega
      blk:=ZO _ _ _
      regs:=fun t x hx=> by
       obtain⟨r1,r2⟩:=h.regs t x hx
       exact⟨by rw[A.den_congr e1 (fun _ _=> rfl) x r2];exact r1,A.bel_le (Nat.le_succ _) (Nat.le_refl _) x r2⟩
      sym:=zag _ _ _
      xlt:=Nat.lt_succ_self _}
     have htI:∀e∈tab,CE.ok P KD hint known ρ1 (ZRI a first cap).nx e:=fun e he=> (ht e he).fwd1 e1 (Nat.le_succ _)
     obtain⟨p,p1,p0,ρ',m',f',nb',g',d',dl',p2,p3,pm,p4⟩:=hrun (md:=⟨false,some ⟨a.nx,fn,n,a.regs,pa.toList,asg,body⟩⟩) (ys:=⟨nb+1,nb,f⟩) (dl:=[]) (dd:=d) none b1 (fun hh=> by cases hh) RI (fun yc hyc=> by cases hyc;exact YI) ⟨List.nodup_nil,fun D hD=> by cases hD⟩ htI ho fun p hp=> by
      obtain⟨s,hs,hsub⟩:=ZK8 hr hp
      cases hp1:p.1 with
      |vc Q l=>
       unfold ZRJ at hs
       rw[hp1] at hs
       cases hs
       exact hv p (hsub p (List.mem_cons_self ..))
      |_=> unfold ZK7;rw[hp1];trivial
     obtain rfl:=pm.dl rfl
     have Yp:=pm.y _ rfl
     obtain⟨s,hs,hsub⟩:=ZK8 hr p1
     have hex:p.1.ex=.ret∨p.1.ex=.normal:=by
      cases hp1:p.1 with
      |nrm=> exact Or.inr rfl
      |ret=> exact Or.inl rfl
      |ext id=> unfold ZRJ at hs;rw[hp1] at hs;cases hs
      |vc Q l=> rw[hp1] at p0;cases p0
     have hs':s=[((match p.2.st with
      |0=> E1.nrm
      |1=> .ret
      |k+2=> .ext k),{p.2 with regs:=a.regs,st:=a.st})]:=by
      unfold ZRJ at hs
      cases hp1:p.1 with
      |nrm=> rw[hp1] at hs;cases hs;rfl
      |ret=> rw[hp1] at hs;cases hs;rfl
      |ext id=> rw[hp1] at hs;cases hs
      |vc Q l=> rw[hp1] at p0;cases p0
     have hmem:=hsub _ (by rw[hs'];exact List.mem_cons_self ..)
     have nimB:∀x,x < nb+2→(∀c,c < a.blks.length→m c≠x)→∀c,c < p.2.blks.length→m' c≠x:=fun x hx hm=> p2.nim hx hm
     let EX:Blk:=.loop fn (mkT 20 n f) pa.toList asg body (ZMU p.2.st) .exhausted nb
     let g3:Nat→Blk:=atB g' (nb+1) EX
     have g2x:∀x,x < nb→g2 x=g x:=fun x hx=> by
      show atB (atB g nb .dfr) (nb+1) LP x=_
      rw[ZN _ _ (by omega),ZN _ _ (by omega)]
     have hnbm:∀c,c < a.blks.length→m c≠nb:=fun c hc=> by have:=h.lt c hc;omega
     have Fn:Fwd none a ρ m nb g {p.2 with regs:=a.regs,st:=a.st} ρ' m' nb' g3:=by
      refine⟨⟨fun y hy=> (p2.ext.r y (Nat.lt_succ_of_lt hy)).trans (e1 y hy),fun c hc=> p2.ext.m c hc⟩,Nat.le_trans (Nat.le_succ _) p2.nx,⟨p2.len.1,fun b h1 h2=> Nat.le_trans (by omega) (p2.len.2 b h1 h2)⟩,fun x hx _ hm ht=> ?_,Nat.le_trans (by omega) p2.nb⟩
      show atB g' (nb+1) EX x=_
      rw[ZN _ _ (by omega),p2.fr x (by omega) (fun hh=> by have:=Option.some.inj hh;have this:nb+1=x:=this;omega) hm (by rw[g2x x hx];exact ht),g2x x hx]
     have R3:Rel P KD ρ' m' {p.2 with regs:=a.regs,st:=a.st} f nb' g3:=by
      have hfrm:=p3.frame (g':=g3) (fun b l hl=> ZN _ _ (Yp.nim b (List.getElem?_eq_some_iff.1 hl).1)) fun r k hk=> by
       show atB g' (nb+1) EX r=_
       rw[ZN _ _ (fun hh=> by subst hh;have hb:=Yp.blk;have hb:g' (nb+1)=_:=hb;rw[hk] at hb;cases hb)]
       exact hk
      exact {
       regs:=fun t x hx=> by
        obtain⟨r1,r2⟩:=h.regs t x hx
        exact⟨by rw[r1,A.den_congr Fn.ext.r Fn.ext.m x r2],A.bel_le Fn.nx Fn.len.1 x r2⟩
       blks:=hfrm.blks
       inj:=hfrm.inj
       lt:=hfrm.lt
       syms:=hfrm.syms
       fs:=hfrm.fs
       ap:=hfrm.ap
       apn:=hfrm.apn}
     have hdfr:g3 nb=.dfr:=by
      show atB g' (nb+1) EX nb=_
      rw[ZN _ _ (by omega),p2.fr nb (by omega) (fun hh=> by have:=Option.some.inj hh;have this:nb+1=nb:=this;omega) hnbm (fun k hk=> by
       have hk:atB (atB g nb .dfr) (nb+1) LP nb=_:=hk
       rw[ZN _ _ (by omega),ZO] at hk;cases hk)]
      show atB (atB g nb .dfr) (nb+1) LP nb=_
      rw[ZN _ _ (by omega),ZO]
     have hmk3:ZKZ (.mark nb::dl) p.2.blks.length m' nb' g3:=by
      have hold:=hmk.fwd Fn (fun x hx=> by cases hx)
      refine⟨List.nodup_cons.2 ⟨fun hh=> ?_,hmk.1⟩,fun D hD=> ?_⟩
      ·obtain⟨r,r1,r2, -⟩:=hmk.2 _ hh
       cases r1
       exact absurd r2 (Nat.lt_irrefl _)
      ·rcases List.mem_cons.1 hD with rfl|hD
       ·exact⟨nb,rfl,Nat.lt_of_lt_of_le (by omega) p2.nb,nimB nb (by omega) hnbm,hdfr⟩
       ·exact hold.2 D hD
     refine⟨_,hmem,?_,ρ',m',f,nb',g3,(nb+1)::d',.mark nb::dl,Fn.weak,R3,⟨hy.fwd Fn rfl,hmk3,fun hh=> by rw[hrg] at hh;cases hh⟩,?_⟩
     ·show E1.real (match p.2.st with
       |0=> E1.nrm
       |1=> .ret
       |k+2=> .ext k)=true
      split <;> rfl
     ·rw[ZZo rfl rfl hf]
      have hheap:((mkH nb g d).new .dfr).new (.loop fn (mkT 20 n f) pa.toList asg body none .ready (mkH nb g d).n)=mkH (nb+2) g2 d:=by
       rw[Z8,Z8];rfl
      rw[hheap]
      have hcall:(EV P hint known).call gf (A.dens ρ m first++[Y]++A.dens ρ m cap) (mkH (nb+2) g2 d)=some [(.ret (.tup []),mkH nb' g' d')]:=by
       rw[Qu hF hc rfl b1 b3 (by rw[List.length_append,List.length_append,ZLb,ZLb];show _+1+_≤_;omega),p4]
       have:=Zc (P:=P) (hint:=hint) (known:=known) (fn:=F) b4 hex (mkT 20 F.ntmps f') (mkH nb' g' d')
       exact this
      show(match (EV P hint known).call gf (A.dens ρ m first++[Y]++A.dens ρ m cap) (mkH (nb+2) g2 d) with
       |some outs=> ZCA (ZEh (EV P hint known) ⟨fn,none⟩ (S n f dl (mkH nb g d)) (.mark nb::dl) (nb+1)) outs
       |none=> none)=_
      rw[hcall]
      have hget:(mkH nb' g' d').get (nb+1)=.loop fn (mkT 20 n f) pa.toList asg body (ZMU p.2.st) (ZN1 p.2.st) nb:=by
       rw[Zj Yp.lt];exact Yp.blk
      have hnbusy:ZN1 p.2.st≠.busy:=by
       cases p.2.st <;> exact fun hh=> by cases hh
      have hset:(mkH nb' g' d').set (nb+1) EX=mkH nb' g3 ((nb+1)::d'):=zYT ..
      have hre:ZEh (EV P hint known) ⟨fn,none⟩ (S n f dl (mkH nb g d)) (.mark nb::dl) (nb+1) (.ret (.tup []),mkH nb' g' d')=match ZMU p.2.st with
       |none=> some [(.normal,S n f (.mark nb::dl) (mkH nb' g3 ((nb+1)::d')))]
       |some c=> (EV P hint known).code ⟨fn,none⟩ c (S n f (.mark nb::dl) (mkH nb' g3 ((nb+1)::d'))):=by
       unfold ZEh
       simp only
       rw[hget]
       simp only
       rw[if_neg hnbusy,←hset]
       rfl
      show ZCA _ [_]=_
      have hbind:∀{α β:Type} (F:α→Option (List β)) (x:α),ZCA F [x]=F x:=fun F x=> by
       unfold ZCA
       cases F x with
       |none=> rfl
       |some l=> simp[ZCA]
      rw[hbind,hre]
      split
      ·rename_i hp;cases hst:p.2.st with
       |zero=> rfl
       |succ k=> rw[hst] at hp;cases k <;> cases hp
      ·rename_i c' hp
       cases hst:p.2.st with
       |zero=> rw[hst] at hp;cases hp
       |succ k=>
        rw[hst] at hp
        cases k with
        |zero=> cases hp;exact Zb rfl _ _
        |succ k=> cases hp;exact Zx rfl _ _
    ·cases hr
  ·cases hr
 ·cases hr
theorem Z23 {id:Nat} {e:E1} (h:e.real=true):(e.un id).real=true:=by
 cases e with
 |ext i=>
  unfold E1.un
  simp only
  cases Nat.beq i id <;> rfl
 |vc Q l=> cases h
 |_=> rfl
theorem ZZH {id:Nat} {e:E1} {s:St} (h:e.real=true):ZmZ id (some [(e.ex,s)])=some [((e.un id).ex,s)]:=by
 cases e with
 |nrm=> rfl
 |ret=> rfl
 |vc Q l=> cases h
 |ext i=>
  unfold E1.un
  simp only
  cases hb:Nat.beq i id with
  |true=>
   have:=Nat.eq_of_beq_eq_true hb
   subst this
   exact Zo _ _
  |false=> exact zyN (fun hh=> by subst hh;rw[Nat.beq_refl] at hb;cases hb) _
theorem ZZM (hKD:∀e,(KD e true).length=(KD e false).length) (hkn:∀f args,hint.heap f=false→known.call f args=none) {run:RunT} (hrun:ZMj P KD hint known tab run):ZM1 P KD hint known tab (ZM7 P KD hint tab inl run):=by
 intro ρ m a f nb g fi xs rs h ht hb hr
 unfold ZM7 at hr
 split at hr
 ·rename_i r hc
  cases hr
  exact ZVg h hKD hb ht hc
 ·cases hm:ZKK inl.l fi with
  |false=> rw[hm] at hr;cases hr
  |true=>
   rw[hm] at hr
   exact Z0t hrun hkn h ht hb hr
theorem ZYE (hKD:∀e,(KD e true).length=(KD e false).length) (hkn:∀f args,hint.heap f=false→known.call f args=none) (hmk:∀c∈inl.mks,Mk2.ok P KD hint known c):∀{d:Nat},ZMj P KD hint known tab (sxC P KD hint tab inl d)
 |0=> fun _ _ _ _ _ _ _ hr=> by cases hr
 |d+1=> by
  rename_i md ys dl fn n c a ρ m f nb g dd outs
  intro r hn hrg h hy hmx ht hr
  have IH:ZMj P KD hint known tab (sxC P KD hint tab inl d):=ZYE hKD hkn hmk
  have hcall:ZM1 P KD hint known tab (ZM7 P KD hint tab inl (sxC P KD hint tab inl d)):=ZZM hKD hkn IH
  have here:∀(e:E1) (x:Option (List (Ex×St))),e.real=true→some [(e,a)]=some outs→x=some [(e.ex,S n f dl (mkH nb g dd))]→ZN8 P KD md ys dl a ρ m nb g n outs x:=fun e x hx0 ho hx=> by
   cases ho
   cases e with
   |vc Q l=> cases hx0
   |_=> exact fun _=> ⟨_,List.mem_cons_self ..,rfl,ρ,m,f,nb,g,dd,dl,.refl,h,⟨hy,hmx,fun _=> rfl⟩,hx⟩
  cases c with
  |skip=> exact here .nrm _ rfl hr (zp rfl _ _)
  |ret=> exact here .ret _ rfl hr (Zb rfl _ _)
  |exit id=> exact here (.ext id) _ rfl hr (Zx rfl _ _)
  |region id ops draw=>
   unfold sxC at hr
   simp only at hr
   split at hr
   ·rename_i hf
    cases draw with
    |false=>
     rw[zb (c:=.region id ops false) (ops:=ops) rfl hf]
     simp only[cond_false] at hr
     cases hx:sxO P KD hint (ZM7 P KD hint tab inl (sxC P KD hint tab inl d)) inl.mks (sxC P KD hint tab inl d) md fn n ops ops.toList a with
     |none=> rw[hx] at hr;cases hr
     |some l=>
      rw[hx] at hr
      exact ZN7.nrms hy hmx (ZRV hmk IH hcall hKD (c:=.region id ops false) (j:=0) hn rfl h hy ht hx) hr
    |true=>
     simp only[cond_true] at hr
     cases hreg:ZFj ops with
     |false=> rw[hreg] at hr;cases hr
     |true=>
      rw[hreg] at hr
      simp only[cond_true] at hr
      rw[JI (c:=.region id ops true) (ops:=ops) rfl hreg rfl hf]
      cases hx:sxD P KD hint (ZM7 P KD hint tab inl (sxC P KD hint tab inl d)) fn n ops (Region.before ops).toList ops.toList 0 [] a with
      |none=> rw[hx] at hr;cases hr
      |some l=>
       rw[hx] at hr
       exact ZN7.nrms hy hmx (ZTW hcall hKD (c:=.region id ops true) (j:=0) (dn:=[]) hn rfl h hy ht (fun p hp=> by cases hp) hx) hr
   ·cases hr
  |seq x y=>
   unfold sxC at hr
   simp only at hr
   split at hr
   ·rename_i l hl
    rw[za (a:=x) (b:=y) rfl]
    intro hv
    obtain⟨p,p1,p0,ρ',m',f',nb',g',d',dl',p2,p3,pm,p4⟩:=IH (dd:=dd) r hn hrg h hy hmx ht hl fun p hp=> by
     obtain⟨s,hs,hsub⟩:=ZK8 hr hp
     split at hs
     ·rename_i hp';unfold ZK7;rw[hp'];trivial
     ·cases hs;exact hv _ (hsub _ (List.mem_cons_self ..))
    obtain⟨s,hs,hsub⟩:=ZK8 hr p1
    rw[p4]
    split at hs
    ·rename_i hp
     rw[hp]
     show Came P KD md ys dl a ρ m nb g n outs (Qc P hint known ⟨fn,r⟩ y (S n f' dl' (mkH nb' g' d')))
     obtain⟨q,q1,q0,ρ2,m2,f2,nb2,g2,d2,dl2,q2,q3,qm,q4⟩:=IH (dd:=d') r hn hrg p3 pm.y pm.mks (fun e he=> (ht e he).fwd p2) hs fun q hq=> hv q (hsub q hq)
     exact⟨q,hsub _ q1,q0,ρ2,m2,f2,nb2,g2,d2,dl2,p2.trans q2,q3,⟨qm.y,qm.mks,fun hh=> (qm.dl hh).trans (pm.dl hh)⟩,q4⟩
    ·rename_i e hne
     cases hs
     have hex:p.1.ex≠.normal:=by
      cases hp:p.1 with
      |nrm=> exact absurd hp hne
      |ext id=> exact fun hh=> by cases hh
      |ret=> exact fun hh=> by cases hh
      |vc Q l=> rw[hp] at p0;cases p0
     exact⟨_,hsub _ (List.mem_cons_self ..),p0,ρ',m',f',nb',g',d',dl',p2,p3,pm,ZZd hex⟩
   ·cases hr
  |cond o x y=>
   cases o with
   |tmp t=>
    unfold sxC at hr
    simp only at hr
    split at hr
    ·rename_i v hv
     split at hr
     ·rename_i l hl
      rw[zl (t:=t) (a:=x) (b:=y) rfl]
      have hreg:(S n f dl (mkH nb g dd)).regs.get ZmM t=v.den ρ m:=Option.some.inj (ZKY h hn hv).1
      obtain⟨p,p1,p2,p3,p4⟩:=ZUO h hl
      obtain⟨s,hs,hsub⟩:=ZK8 hr p1
      rw[hreg,p2]
      have hf:∀{ex:Option Nat},Fwd ex a ρ m nb g p.2 ρ m nb g:=p4.fwd
      have hy2:=hy.fwd hf p4.st
      have hmk2:ZKZ dl p.2.blks.length m nb g:=by rw[p4.blks];exact hmx
      intro hv0
      cases hp:p.1 with
      |true=>
       rw[hp] at hs
       obtain⟨q,q1,q0,ρ2,m2,f2,nb2,g2,d2,dl2,q2,q3,qm,q4⟩:=IH (dd:=dd) r hn hrg p3 hy2 hmk2 (fun e he=> (ht e he).fwd (ex:=none) hf) hs fun q hq=> hv0 q (hsub q hq)
       exact⟨q,hsub _ q1,q0,ρ2,m2,f2,nb2,g2,d2,dl2,hf.trans q2,q3,qm,q4⟩
      |false=>
       rw[hp] at hs
       obtain⟨q,q1,q0,ρ2,m2,f2,nb2,g2,d2,dl2,q2,q3,qm,q4⟩:=IH (dd:=dd) r hn hrg p3 hy2 hmk2 (fun e he=> (ht e he).fwd (ex:=none) hf) hs fun q hq=> hv0 q (hsub q hq)
       exact⟨q,hsub _ q1,q0,ρ2,m2,f2,nb2,g2,d2,dl2,hf.trans q2,q3,qm,q4⟩
     ·cases hr
    ·cases hr
   |_=> cases hr
  |block id b=>
   unfold sxC at hr
   simp only at hr
   split at hr
   ·rename_i l hl
    cases hr
    rw[zu (b:=b) rfl]
    intro hv
    obtain⟨p,p1,p0,ρ',m',f',nb',g',d',dl',p2,p3,pm,p4⟩:=IH (dd:=dd) r hn hrg h hy hmx ht hl fun p hp=> by
     have h1:=hv _ (List.mem_map_of_mem hp)
     unfold ZK7 at h1⊢
     cases hp1:p.1 with
     |vc Q l=> rw[hp1] at h1;exact h1
     |_=> trivial
    rw[p4,ZZH p0]
    exact⟨_,List.mem_map_of_mem p1,Z23 p0,ρ',m',f',nb',g',d',dl',p2,p3,pm,rfl⟩
   ·cases hr
  |scope b=>
   rw[ZZp (b:=b) rfl]
   exact IH r hn hrg h hy hmx ht hr
  |loop b=>
   unfold sxC at hr
   simp only at hr
   split at hr
   ·rename_i pl hpl
    split at hr
    ·rename_i o ho
     cases hfit:ZMv pl a && ZNj P KD pl a a (fun _=> none) && fitAll P KD pl a (head pl a) o && Nat.beq (head pl a).st a.st && ZRR a o with
     |false=> rw[hfit] at hr;cases hr
     |true=>
      rw[hfit] at hr
      simp only[cond_true] at hr
      split at hr
      ·rename_i v1 v2 hv1 hv2
       cases hr
       intro hv
       have hvs:ZN6 P KD pl a:=ZX2 hv1 fun p hp=> hv p (List.mem_append_left _ hp)
       have hvx:∀p∈ZL3 o,ZK7 P KD p:=fun p hp=> hv p (List.mem_append_right _ (List.mem_append_right _ hp))
       have hvn:∀p∈o,p.1=.nrm→ZN6 P KD pl p.2:=fun p hp hpn=> by
        have hm:p.2∈ZOC o:=List.mem_map_of_mem (List.mem_filter.2 ⟨hp,by rw[hpn];rfl⟩)
        obtain⟨s,hs,hsub⟩:=ZK8 hv2 hm
        exact ZX2 hs fun q hq=> hv q (List.mem_append_right _ (List.mem_append_left _ (hsub q hq)))
       rw[Bool.and_eq_true,Bool.and_eq_true,Bool.and_eq_true,Bool.and_eq_true] at hfit
       obtain⟨⟨⟨⟨hold,hf1⟩,hf2⟩,hf3⟩,hf4⟩:=hfit
       have hlen:(headA pl a).blks.length=a.blks.length:=ZP2
       have hrel0:Rel P KD ρ m {(headA pl a) with ap:=[]} f nb g:={
        regs:=fun t x hx=> by rw[show({(headA pl a) with ap:=[]}:SS).blks.length=a.blks.length from hlen];exact h.regs t x (ZSs hx)
        blks:=fun b l hl=> by rw[show({(headA pl a) with ap:=[]}:SS).blks.length=a.blks.length from hlen];exact h.blks b l (ZVs hl)
        inj:=by rw[show({(headA pl a) with ap:=[]}:SS).blks.length=a.blks.length from hlen];exact h.inj
        lt:=by rw[show({(headA pl a) with ap:=[]}:SS).blks.length=a.blks.length from hlen];exact h.lt
        syms:=h.syms
        fs:=h.fs
        ap:=fun x hx=> by cases hx
        apn:=fun x hx=> by cases hx}
       have hka:∀x∈pl.ka,x < a.nx:=fun x hx=> by
        unfold ZNj at hf1
        rw[Bool.and_eq_true,Bool.and_eq_true,Bool.and_eq_true] at hf1
        exact(h.ap x (ZMQ (List.all_eq_true.1 hf1.1.1.2 x hx))).1
       have hinv:=ZVH hKD hold hka hrel0 (fun _ _=> rfl) (fun _ _=> rfl) (Nat.le_refl _) h hf1 (hps:=hvs) fun c hc x hx=> by cases hx
       obtain⟨q,q1,q2⟩:=ZXi hKD (md:=md) (ys:=ys) (dl0:=dl) hold ht (fun hrel hyy hmm hce=> IH r hn hrg hrel hyy hmm hce ho) (Nat.eq_of_beq_eq_true hf3) hf4 hf2 hvx hvn h.lt ((meV pl ρ f (ZGJ g m)).toNat+1) f nb g dd dl (Nat.le_refl _) .refl hinv hy hmx (fun _=> rfl) (by omega)
       exact⟨q,List.mem_append_right _ (List.mem_append_right _ q1),q2⟩
      ·cases hr
    ·cases hr
   ·cases hr
  |rangeFunc fo pa asg body=>
   cases fo with
   |tmp t=>
    unfold sxC at hr
    simp only at hr
    cases hm:md.rg with
    |false=> rw[hm] at hr;cases hr
    |true=>
     rw[hm] at hr
     simp only[cond_true] at hr
     obtain rfl:=hrg hm
     split at hr
     ·rename_i gf l l' hv
      have hreg:(S n f dl (mkH nb g dd)).regs.get ZmM t=_:=Option.some.inj (ZKY h hn hv).1
      exact ZYh IH hm h hy hmx ht (by rw[hreg,ZLS,ZLS];rfl) hr
     ·rename_i gf l l' hv
      have hreg:(S n f dl (mkH nb g dd)).regs.get ZmM t=_:=Option.some.inj (ZKY h hn hv).1
      exact ZYh IH hm h hy hmx ht (by rw[hreg];rfl) hr
     ·cases hr
   |_=> cases hr
  |_=> cases hr
end
end
section
def ss0:SS:=⟨[],[],0,[],[],[],0⟩
def mdF:Md:=⟨true,none⟩
structure Spc where
 f:FuncId
 ps:List PK
 r:RK
 sm:Bool:=false
 pre:List (Nat×Nat×Nat):=[]
 lim:Option (Nat×Nat):=none
 post:Option (List V→Prop):=none
 cuts:List (List Nat×List Nat):=[]
 alts:List Alt:=[]
def Spc.al (s:Spc):List Alt:=match s.alts with
 |[]=> [{r:=s.r,post:=s.post}]
 |l=> l
def ZL1 (ps:List PK) (sm:Bool):List A×SS:=
 let r:=ZKS (cond sm (ps.take (ps.length / 2)) ps) ss0
 (cond sm (r.1++r.1) r.1,r.2)
section
variable (P:Program) (KD:TypeId→Bool→List K) (hint:Hint) (known:Known) (tab:List CE) (inl:Inl)
structure VC where
 sy:List (Nat×SI)
 fs:List Fact
 Q:List V→Prop
 l:List A
def VC.full (vc:VC):Prop:=∀ρ:Nat→V,(∀x i,look vc.sy x=some i→ZCu P KD (ρ x) i)→(∀F∈vc.fs,F.ok P KD ρ)→vc.Q (A.dens ρ (fun _=> 0) vc.l)
def ZC8 (ρ:Nat→V):List (Nat×SI)→Prop
 |[]=> True
 |p::l=> ZCu P KD (ρ p.1) p.2∧ZC8 ρ l
def zy (ρ:Nat→V):List Fact→Prop
 |[]=> True
 |F::l=> F.ok P KD ρ∧zy ρ l
def VC.ok (vc:VC):Prop:=∀ρ:Nat→V,ZC8 P KD ρ vc.sy→zy P KD ρ vc.fs→vc.Q (A.dens ρ (fun _=> 0) vc.l)
def VCs:List VC→Prop
 |[]=> True
 |vc::l=> VC.ok P KD vc∧VCs l
def ZPa (sy:List (Nat×SI)):List Nat→List (Nat×SI)
 |[]=> []
 |x::l=> match look sy x with
  |some i=> (x,i)::ZPa sy l
  |none=> ZPa sy l
def ZO9 (fs:List Fact):List Nat→List Fact
 |[]=> []
 |x::l=> match fs[x]? with
  |some F=> F::ZO9 fs l
  |none=> ZO9 fs l
def VC.cut (vc:VC) (c:List Nat×List Nat):VC:=⟨ZPa vc.sy c.1,ZO9 vc.fs.reverse c.2,vc.Q,vc.l⟩
def ZPX:List (List Nat×List Nat)→List VC→List VC
 |_,[]=> []
 |[],vc::vcs=> vc.cut ([],[])::ZPX [] vcs
 |c::cs,vc::vcs=> vc.cut c::ZPX cs vcs
def ZSk (v:VC) (x:Option (List VC)):Option (List VC):=match x with
 |some vs=> some (v::vs)
 |none=> none
def apB (a:SS) (y:A) (al:Alt):Bool:=
 match al.ap with
 |none=> true
 |some j=> ZOa al.r j && (match ZNa y j with
  |some (.s x)=> ZKK a.ap x && (ZFS a x).isSome
  |_=> match y,j with
   |.k .nils,0=> true
   |.lit _ _ _,0=> true
   |.tup (.k .nils::_),0=> true
   |.tup (.lit _ _ _::_),0=> true
   |.tup (_::.k .nils::_),1=> true
   |.tup (_::.lit _ _ _::_),1=> true
   |_,_=> false)
def ZRy (a:SS) (xs:List A) (y:A):List Alt→Option Alt
 |[]=> none
 |al::l=> cond (ZOm P KD a y al.r && ZPr a (xs++[y]) al.lin && apB a y al) (some al) (ZRy a xs y l)
def ZOf (n:Nat) (res:List ResultVar) (alts:List Alt) (xs:List A):List (E1×SS)→Option (List VC)
 |[]=> some []
 |p::l=> match p.1 with
  |.ext _=> none
  |.vc Q l'=> ZSk ⟨p.2.syms,p.2.fs,Q,l'⟩ (ZOf n res alts xs l)
  |_=> match ZNY P n p.2 res with
   |some ys=> cond (A.bels p.2.nx 0 (xs++[ZLd ys])) (match ZRy P KD p.2 xs (ZLd ys) alts with
    |some al=> match al.post with
     |none=> ZOf n res alts xs l
     |some Q=> ZSk ⟨p.2.syms,p.2.fs,fun l=> Q (vns l),xs++[ZLd ys]⟩ (ZOf n res alts xs l)
    |none=> none) none
   |none=> none
def ZX0 (I:SS) (xs:List A) (q:Nat×Nat×Nat):List Fact:=
 match xs[q.1]? with
 |some x=> match cellOf x q.2.1 with
  |some y=> cond (ZFS I y).isSome [.c (.r y) .z q.2.2,.c .z (.n y) q.2.2] []
  |none=> []
 |none=> []
def ZPd (s:Spc):SS:=let x:=ZL1 s.ps s.sm
 let I:=ZM0 x.2 x.1
 knows (s.pre.flatMap (ZX0 I x.1)) I
def ZRD (s:Spc) (xs:List A) (I:SS):List (Spc×Nat)→List CE
 |[]=> []
 |t::l=> (match s.lim,t.1.lim with
  |some (p,c),some (p',c')=> (match xs[p]? with
   |some x=> match cellOf x c with
    |some y=> cond (Nat.blt y I.nx && (ZFS I y).isSome && !hint.frame t.1.f) [⟨t.1.f,t.1.ps,t.1.al,t.1.sm,t.1.pre,some (p',c',y,t.2)⟩] []
    |none=> []
   |none=> [])
  |_,_=> [])++ZRD s xs I l
def ZKw (s:Spc):List (Spc×Nat):=match s.lim with
 |none=> []
 |some _=> [(s,0)]
def ZGO (fuel:Nat) (rc:List (Spc×Nat)) (s:Spc):Option (List VC):=
 match P.funcs[s.f]? with
 |some fn=> match fn.body with
  |some c=> let x:=ZL1 s.ps s.sm
   let I:=ZPd s
   cond (Nat.blt fn.ntmps 1048576 && Nat.ble s.ps.length fn.ntmps && !hint.frame s.f && !hint.heap s.f && A.bels I.nx 0 x.1) (match sxC P KD hint (ZRD hint s x.1 I rc++tab) inl fuel mdF s.f fn.ntmps c I with
   |some outs=> match ZOf P KD fn.ntmps fn.results.toList s.al x.1 outs with
    |some vcs=> some (ZPX s.cuts vcs)
    |none=> none
   |none=> none) none
  |none=> none
 |none=> none
def ZGR (fuel:Nat) (s:Spc):Bool:=match ZGO P KD hint tab inl fuel (ZKw s) s with
 |some []=> true
 |_=> false
def ZFe (tab:List CE):Prop:=∀e∈tab,e.lim=none∧ZK0 P KD hint known e.f e.ps e.alts e.sm e.pre none∧hint.frame e.f=false
def Spc.ce (s:Spc):CE:=⟨s.f,s.ps,s.al,s.sm,s.pre,none⟩
variable {P KD hint known tab inl}
theorem VC.of_cut {vc:VC} {c:List Nat×List Nat} (h:VC.ok P KD (vc.cut c)):VC.full P KD vc:=by
 intro ρ h1 h2
 have hs:∀l:List Nat,ZC8 P KD ρ (ZPa vc.sy l):=by
  intro l
  induction l with
  |nil=> trivial
  |cons x l ih=>
   unfold ZPa
   split
   ·rename_i i hi
    exact⟨h1 x i hi,ih⟩
   ·exact ih
 have hf:∀(fs:List Fact),(∀F∈fs,F.ok P KD ρ)→∀l:List Nat,zy P KD ρ (ZO9 fs l):=by
  intro fs hfs l
  induction l with
  |nil=> trivial
  |cons x l ih=>
   unfold ZO9
   split
   ·rename_i F hF
    exact⟨hfs F (List.mem_of_getElem? hF),ih⟩
   ·exact ih
 exact h ρ (hs c.1) (hf _ (fun F hF=> h2 F (List.mem_reverse.1 hF)) c.2)
theorem ZTt:∀{cs:List (List Nat×List Nat)} {vcs:List VC},VCs P KD (ZPX cs vcs)→∀vc∈vcs,VC.full P KD vc
 |_,[],_=> fun _ h=> by cases h
 |[],v::vcs,h=> fun vc hvc=> by
  rcases List.mem_cons.1 hvc with rfl|hvc
  ·exact VC.of_cut h.1
  ·exact ZTt (cs:=[]) h.2 vc hvc
 |c::cs,v::vcs,h=> fun vc hvc=> by
  rcases List.mem_cons.1 hvc with rfl|hvc
  ·exact VC.of_cut h.1
  ·exact ZTt (cs:=cs) h.2 vc hvc
theorem ZVj {v:VC} {x:Option (List VC)} {l:List VC} (h:ZSk v x=some l):∃l',x=some l'∧l=v::l':=by
 cases x with
 |none=> cases h
 |some l'=> cases h;exact⟨l',rfl,rfl⟩
theorem ZZt {ρ:Nat→V} {m:Nat→Nat} {a:SS} {f:Nat→V} {nb:Nat} {g:Nat→Blk} {d:List Nat} (h:Rel P KD ρ m a f nb g) {y:A} {al:Alt} (hb:apB a y al=true):∀j,al.ap=some j→ZOa al.r j=true∧
 (ZKx (y.den ρ m) j=.nils∨(∃cs len sz,ZKx (y.den ρ m) j=.vs cs len sz .tight)∨∃cs len sz q k,ZKx (y.den ρ m) j=.vs cs len sz (.tok q k)∧(mkH nb g d).get q=.tok k):=by
 intro j hj
 unfold apB at hb
 rw[hj] at hb
 simp only at hb
 rw[Bool.and_eq_true] at hb
 refine⟨hb.1,?_⟩
 have hb:=hb.2
 split at hb
 ·rename_i x hx
  rw[Bool.and_eq_true] at hb
  have hd:=ZOX h hx fun z hz=> by
   cases hz
   exact Option.isSome_iff_exists.1 hb.2
  rw[hd]
  rcases(h.ap x (ZMQ hb.1)).2 with h1|h1|⟨cs,len,sz,q,k,h1,h2,h3⟩
  ·exact Or.inl h1
  ·exact Or.inr (Or.inl h1)
  ·exact Or.inr (Or.inr ⟨cs,len,sz,q,k,h1,by rw[ZWK q h2];exact h3⟩)
 ·split at hb
  ·exact Or.inl rfl
  ·exact Or.inr (Or.inl ⟨_,_,_,rfl⟩)
  ·exact Or.inl rfl
  ·exact Or.inr (Or.inl ⟨_,_,_,rfl⟩)
  ·exact Or.inl rfl
  ·exact Or.inr (Or.inl ⟨_,_,_,rfl⟩)
  ·cases hb
def ZPG (P:Program) (KD:TypeId→Bool→List K) (n:Nat) (res:List ResultVar) (alts:List Alt) (xs:List A) (p:E1×SS):Prop:=
 ZK7 P KD p∧(p.1.real=true→(p.1.ex=.ret∨p.1.ex=.normal)∧∃ys,ZNY P n p.2 res=some ys∧A.bels p.2.nx 0 (xs++[ZLd ys])=true∧∃al∈alts,ZOm P KD p.2 (ZLd ys) al.r=true∧ZPr p.2 (xs++[ZLd ys]) al.lin=true∧apB p.2 (ZLd ys) al=true∧
  ∀Q,al.post=some Q→∀ρ m f nb g,Rel P KD ρ m p.2 f nb g→Q (vns (A.dens ρ (fun _=> 0) (xs++[ZLd ys]))))
theorem ZXX {a:SS} {xs:List A} {y:A} {al:Alt}:∀{l:List Alt},ZRy P KD a xs y l=some al→al∈l∧ZOm P KD a y al.r=true∧ZPr a (xs++[y]) al.lin=true∧apB a y al=true
 |[],h=> by cases h
 |b::l,h=> by
  unfold ZRy at h
  cases hb:ZOm P KD a y b.r && ZPr a (xs++[y]) b.lin && apB a y b with
  |false=>
   rw[hb] at h
   obtain⟨h1,h2⟩:=ZXX h
   exact⟨List.mem_cons_of_mem _ h1,h2⟩
  |true=>
   rw[hb] at h
   cases h
   rw[Bool.and_eq_true,Bool.and_eq_true] at hb
   exact⟨List.mem_cons_self ..,hb.1.1,hb.1.2,hb.2⟩
theorem VC.use {a:SS} {Q:List V→Prop} {l:List A} (h:VC.full P KD ⟨a.syms,a.fs,Q,l⟩) (ρ:Nat→V) (m:Nat→Nat) (f:Nat→V) (nb:Nat) (g:Nat→Blk) (hr:Rel P KD ρ m a f nb g):Q (A.dens ρ (fun _=> 0) l):=
 h ρ (fun x i hx=> (hr.syms x i hx).2) fun F hF=> (hr.fs F hF).2
theorem ZP3 {n:Nat} {res:List ResultVar} {alts:List Alt} {xs:List A}:∀{l:List (E1×SS)} {vcs:List VC},ZOf P KD n res alts xs l=some vcs→(∀vc∈vcs,VC.full P KD vc)→
 ∀p∈l,ZPG P KD n res alts xs p
 |[],_,_,_=> fun _ hp=> by cases hp
 |q::l,vcs,he,hv=> by
  have both:ZPG P KD n res alts xs q→(∀p∈l,ZPG P KD n res alts xs p)→∀p∈q::l,ZPG P KD n res alts xs p:=fun h1 h2 p hp=> by
   rcases List.mem_cons.1 hp with rfl|hp
   ·exact h1
   ·exact h2 p hp
  unfold ZOf at he
  split at he
  ·cases he
  ·rename_i Q l' hq
   obtain⟨vs,e1,rfl⟩:=ZVj he
   refine both ⟨?_,fun hr=> by rw[hq] at hr;cases hr⟩ (ZP3 e1 fun vc hvc=> hv vc (List.mem_cons_of_mem _ hvc))
   unfold ZK7
   rw[hq]
   exact VC.use (hv _ (List.mem_cons_self ..))
  ·rename_i hne1 hne2
   have hvq:ZK7 P KD q:=by
    unfold ZK7
    split
    ·rename_i Q l' hq;exact absurd hq (hne2 Q l')
    ·trivial
   have hex:q.1.ex=.ret∨q.1.ex=.normal:=by
    cases hq:q.1 with
    |nrm=> exact Or.inr rfl
    |ret=> exact Or.inl rfl
    |ext id=> exact absurd hq (hne1 id)
    |vc Q l'=> exact absurd hq (hne2 Q l')
   split at he
   ·rename_i ys hys
    cases hb:A.bels q.2.nx 0 (xs++[ZLd ys]) with
    |false=> rw[hb] at he;cases he
    |true=>
     rw[hb] at he
     simp only[cond_true] at he
     split at he
     ·rename_i al hal
      obtain⟨a1,a2,a3,a4⟩:=ZXX hal
      split at he
      ·rename_i hp
       exact both ⟨hvq,fun _=> ⟨hex,ys,hys,hb,al,a1,a2,a3,a4,fun Q hQ=> by rw[hp] at hQ;cases hQ⟩⟩ (ZP3 he hv)
      ·rename_i Q0 hp
       obtain⟨vs,e1,rfl⟩:=ZVj he
       refine both ⟨hvq,fun _=> ⟨hex,ys,hys,hb,al,a1,a2,a3,a4,fun Q hQ=> ?_⟩⟩ (ZP3 e1 fun vc hvc=> hv vc (List.mem_cons_of_mem _ hvc))
       rw[hp] at hQ
       cases hQ
       exact VC.use (Q:=fun l=> Q0 (vns l)) (hv _ (List.mem_cons_self ..))
     ·cases he
   ·cases he
theorem ZK0.mono {f:FuncId} {ps:List PK} {alts:List Alt} {sm:Bool} {pre:List (Nat×Nat×Nat)} {p c N N':Nat} (h:ZK0 P KD hint known f ps alts sm pre (some (p,c,N))) (hN:N'≤N):ZK0 P KD hint known f ps alts sm pre (some (p,c,N')):=
 fun args h1 h2 h3 h5 h4=> h args h1 h2 h3 h5 fun p' c' M hM=> by
  cases hM
  exact Nat.lt_of_lt_of_le (h4 _ _ _ rfl) hN
theorem ZKz.len:∀{ps:List PK} {args:List V},ZKz P KD ps args→args.length=ps.length
 |[],[],_=> rfl
 |_::ps,_::vs,h=> by rw[List.length_cons,List.length_cons,ZKz.len h.2]
 |[],_::_,h=> h.elim
 |_::_,[],h=> h.elim
theorem ZKz.take:∀{xs ys:List V} {ps:List PK},ZKz P KD ps (xs++ys)→ZKz P KD (ps.take xs.length) xs
 |[],_,_,_=> trivial
 |x::xs,ys,[],h=> h.elim
 |x::xs,ys,p::ps,h=> ⟨h.1,ZKz.take h.2⟩
theorem ZZA {ps:List PK} {sm:Bool} {args:List V} (ha:ZKz P KD ps args) (hp:V.pures args=true) (hsm:sm=true→∃xs,args=xs++xs):
 ∃ρ,Rel P KD ρ (fun _=> 0) (ZM0 (ZL1 ps sm).2 (ZL1 ps sm).1) (ZCl args 0 fun _=> ZmM) 0 (fun _=> .gone)∧A.dens ρ (fun _=> 0) (ZL1 ps sm).1=args:=by
 have h0:Rel P KD (fun _=> ZmM) (fun _=> 0) ss0 (fun _=> ZmM) 0 (fun _=> .gone):=
  ⟨fun t x hx=> (by cases hx),fun b l hl=> (by simp[ss0] at hl),fun b c hb=> absurd hb (Nat.not_lt_zero _),fun b hb=> absurd hb (Nat.not_lt_zero _),fun x i hx=> (by cases hx),fun p hp=> (by cases hp),fun p hp=> (by cases hp),fun p hp=> (by cases hp)⟩
 have key:∀(qs:List PK) (vs:List V),ZKz P KD qs vs→V.pures vs=true→∃ρ,Rel P KD ρ (fun _=> 0) (ZKS qs ss0).2 (fun _=> ZmM) 0 (fun _=> .gone)∧A.dens ρ (fun _=> 0) (ZKS qs ss0).1=vs∧A.bels (ZKS qs ss0).2.nx 0 (ZKS qs ss0).1=true:=by
  intro qs vs h1 h2
  obtain⟨ρ, -,r2,r3, -, -,r6, -⟩:=ZSG h0 h1 h2
  exact⟨ρ,r2,r3,r6⟩
 have fin:∀(ρ:Nat→V) (b:SS) (xs:List A),Rel P KD ρ (fun _=> 0) b (fun _=> ZmM) 0 (fun _=> .gone)→A.dens ρ (fun _=> 0) xs=args→A.bels b.nx 0 xs=true→Rel P KD ρ (fun _=> 0) (ZM0 b xs) (ZCl args 0 fun _=> ZmM) 0 (fun _=> .gone):=by
  intro ρ b xs hb hd hbl
  exact {
   regs:=fun t x hx=> by
    obtain⟨-,h2⟩:=ZTm hx
    rw[Nat.sub_zero] at h2
    have hbx:=ZPP hbl h2
    refine⟨?_,hbx⟩
    have:=ZRN args 0 (fun _=> ZmM) t (x.den ρ (fun _=> 0)) (by rw[←hd,ZLp,h2];rfl)
    rw[Nat.zero_add] at this
    exact this
   blks:=fun b l hl=> by simp[ZM0] at hl
   inj:=fun b c hb=> absurd hb (Nat.not_lt_zero _)
   lt:=fun b hb=> absurd hb (Nat.not_lt_zero _)
   syms:=hb.syms
   fs:=hb.fs
   ap:=fun x hx=> by cases hx
   apn:=fun x hx=> by cases hx}
 cases sm with
 |false=>
  obtain⟨ρ,r1,r2,r3⟩:=key ps args ha hp
  exact⟨ρ,fin ρ _ _ r1 r2 r3,r2⟩
 |true=>
  obtain⟨xs,rfl⟩:=hsm rfl
  have hl:=ha.len
  rw[List.length_append] at hl
  have hh:ps.length / 2=xs.length:=by omega
  rw[ZLC,Bool.and_eq_true] at hp
  obtain⟨ρ,r1,r2,r3⟩:=key (ps.take (ps.length / 2)) xs (by rw[hh];exact ha.take) hp.1
  have r2':A.dens ρ (fun _=> 0) ((ZKS (ps.take (ps.length / 2)) ss0).1++(ZKS (ps.take (ps.length / 2)) ss0).1)=xs++xs:=by rw[ZLa,r2]
  exact⟨ρ,fin ρ _ _ r1 r2' (ZM6 r3 r3),r2'⟩
theorem ZVi (hKD:∀e,(KD e true).length=(KD e false).length) (hkn:∀f args,hint.heap f=false→known.call f args=none) (hmk:∀c∈inl.mks,Mk2.ok P KD hint known c) {fuel:Nat} {rc:List (Spc×Nat)} {s:Spc} {vcs:List VC} (ht:ZFe P KD hint known tab) (hchk:ZGO P KD hint tab inl fuel rc s=some vcs) (hvcs:VCs P KD vcs) (args:List V) (ha:ZKz P KD s.ps args) (hpu:V.pures args=true) (hsm:s.sm=true→∃xs,args=xs++xs) (hpre:∀q∈s.pre,mes q.1 q.2.1 args≤q.2.2)
 (hrec:∀t∈rc,∀p c p' c',s.lim=some (p,c)→t.1.lim=some (p',c')→ZK0 P KD hint known t.1.f t.1.ps t.1.al t.1.sm t.1.pre (some (p',c',mes p c args+t.2))):hint.heap s.f=false∧∃v h1,(EV P hint known).call s.f args H.empty=some [(.ret v,h1)]∧∃al∈s.al,ZLh P KD al.r v∧ZK6 al.q args v∧∀j,al.ap=some j→ZOa al.r j=true∧(ZKx v j=.nils∨(∃cs len sz,ZKx v j=.vs cs len sz .tight)∨∃cs len sz q k,ZKx v j=.vs cs len sz (.tok q k)∧h1.get q=.tok k):=by
 unfold ZGO at hchk
 split at hchk
 ·rename_i fn hfn
  split at hchk
  ·rename_i c hbody
   simp only at hchk
   cases hb:Nat.blt fn.ntmps 1048576 && Nat.ble s.ps.length fn.ntmps && !hint.frame s.f && !hint.heap s.f && A.bels (ZPd s).nx 0 (ZL1 s.ps s.sm).1 with
   |false=> rw[hb] at hchk;cases hchk
   |true=>
   rw[hb] at hchk
   have hrun:=hchk
   simp only[cond_true] at hrun
   clear hchk
   rw[Bool.and_eq_true,Bool.and_eq_true,Bool.and_eq_true,Bool.and_eq_true] at hb
   obtain⟨⟨⟨⟨b1,b2⟩,b3⟩,b4⟩,b5⟩:=hb
   have b3:hint.frame s.f=false:=by simpa using b3
   have b4:hint.heap s.f=false:=by simpa using b4
   obtain⟨ρ,hI0,hd⟩:=ZZA ha hpu hsm
   have hI:Rel P KD ρ (fun _=> 0) (ZPd s) (ZCl args 0 fun _=> ZmM) 0 (fun _=> .gone):=by
    refine hI0.knows fun F hF=> ?_
    obtain⟨q,hq,hF⟩:=List.mem_flatMap.1 hF
    have hb:=hpre q hq
    unfold ZX0 at hF
    split at hF
    ·rename_i x hx
     split at hF
     ·rename_i y hy
      cases hk:(ZFS (ZM0 (ZL1 s.ps s.sm).2 (ZL1 s.ps s.sm).1) y).isSome with
      |false=> rw[hk] at hF;cases hF
      |true=>
       rw[hk] at hF
       have hm:=(ZRr hI0 hx hy hk).1
       rw[hd] at hm
       rw[hm] at hb
       rcases List.mem_cons.1 hF with rfl|hF
       ·show((V.rk (ρ y):Nat):Int) - 0≤_
        omega
       ·obtain rfl:=List.mem_singleton.1 hF
        show 0 - -((V.rk (ρ y):Nat):Int)≤_
        omega
     ·cases hF
    ·cases hF
   generalize (ZL1 s.ps s.sm).1=xs at hd hrun b5
   generalize hIe:ZPd s=I at hI hrun b5
   have hrcs:∀l:List (Spc×Nat),(∀t∈l,t∈rc)→∀e∈ZRD hint s xs I l,CE.ok P KD hint known ρ I.nx e:=by
    intro l
    induction l with
    |nil=> intro _ e he;cases he
    |cons t l ih=>
     intro hl e he
     rcases List.mem_append.1 he with he|he
     ·split at he
      ·rename_i p c0 p' c' hlim hlim'
       split at he
       ·rename_i x hx
        split at he
        ·rename_i y hy
         cases hb:Nat.blt y I.nx && (ZFS I y).isSome && !hint.frame t.1.f with
         |false=> rw[hb] at he;cases he
         |true=>
          rw[hb] at he
          obtain rfl:=List.mem_singleton.1 he
          rw[Bool.and_eq_true,Bool.and_eq_true] at hb
          have hr:=hrec t (hl t (List.mem_cons_self ..)) p c0 p' c' hlim hlim'
          have hy2:V.rk (ρ y)=mes p c0 args:=by
           have hm:=(ZRr hI hx hy hb.1.2).1
           rw[hd] at hm
           exact hm.symm
          refine⟨?_,fun l hl=> ?_,by simpa using hb.2⟩
          ·show ZK0 P KD hint known t.1.f t.1.ps t.1.al t.1.sm t.1.pre (some (p',c',V.rk (ρ y)+t.2))
           rw[hy2];exact hr
          ·cases hl
           exact ZGM hb.1.1
        ·cases he
       ·cases he
      ·cases he
     ·exact ih (fun t ht=> hl t (List.mem_cons_of_mem _ ht)) e he
   have htab:∀e∈ZRD hint s xs I rc++tab,CE.ok P KD hint known ρ I.nx e:=by
    intro e he
    rcases List.mem_append.1 he with he|he
    ·exact hrcs rc (fun _ h=> h) e he
    ·obtain⟨t1,t2,t3⟩:=ht e he
     refine⟨by rw[t1];exact t2,fun l hl=> ?_,t3⟩
     rw[t1] at hl
     cases hl
   split at hrun
   ·rename_i outs houts
    split at hrun
    ·rename_i vcs' hend
     cases hrun
     have hends:=ZP3 hend (ZTt hvcs)
     obtain⟨p,p1,p0,ρ',m',f',nb',g',d',p2,p3,p4⟩:=ZYk (md:=mdF) rfl (ZYE hKD hkn hmk) hfn hbody (ZGM b1) b3 (by rw[ha.len];exact Nat.le_of_ble_eq_true b2) hI htab houts fun p hp=> (hends p hp).1
     obtain⟨e1,ys,e2,e5,al,e0,e3,e4,e10,e6⟩:=(hends p p1).2 p0
     have e8:A.dens ρ' m' (xs++[ZLd ys])=args++[(ZLd ys).den ρ' m']:=by
      rw[ZLa,A.dens_congr (m':=m') (m:=fun _=> 0) p2.ext.r (fun c hc=> absurd hc (Nat.not_lt_zero c)) xs b5,hd]
      rfl
     have e9:A.dens ρ' (fun _=> 0) (xs++[ZLd ys])=A.dens ρ' m' (xs++[ZLd ys]):=A.dens_congr (m:=m') (b:=0) (fun _ _=> rfl) (fun c hc=> absurd hc (Nat.not_lt_zero c)) _ e5
     exact⟨b4,_,_,p4 ys e1 e2,al,e0,ZZ9 p3 hKD e3,(by
      have l1:=Z1z p3 e4
      rw[e8] at l1
      refine⟨l1,fun Q hQ=> ?_⟩
      have e7:=e6 Q hQ _ _ _ _ _ p3
      rw[e9,e8] at e7
      exact e7),ZZt p3 e10⟩
    ·cases hrun
   ·cases hrun
  ·cases hchk
 ·cases hchk
theorem ZPT (hKD:∀e,(KD e true).length=(KD e false).length) (hkn:∀f args,hint.heap f=false→known.call f args=none) (hmk:∀c∈inl.mks,Mk2.ok P KD hint known c) {fuel:Nat} {rc:List (Spc×Nat)} {s:Spc} {vcs:List VC} (ht:ZFe P KD hint known tab) (hchk:ZGO P KD hint tab inl fuel rc s=some vcs) (hvcs:VCs P KD vcs) (args:List V) (ha:ZKz P KD s.ps args) (hpu:V.pures args=true) (hsm:s.sm=true→∃xs,args=xs++xs) (hpre:∀q∈s.pre,mes q.1 q.2.1 args≤q.2.2)
 (hrec:∀t∈rc,∀p c p' c',s.lim=some (p,c)→t.1.lim=some (p',c')→ZK0 P KD hint known t.1.f t.1.ps t.1.al t.1.sm t.1.pre (some (p',c',mes p c args+t.2))) (nn:Nat):∃e,ZC3 hint known (EV P hint known) s.f args nn=some [e]∧GoodE e∧∃al∈s.al,ZLh P KD al.r e.v∧ZK6 al.q args e.v∧ApE al nn e:=by
 obtain⟨b4,v,h1,hc,al,e0,e3,e6,e10⟩:=ZVi hKD hkn hmk ht hchk hvcs args ha hpu hsm hpre hrec
 obtain⟨e,c1,c2,c3,c4,c5⟩:=ZZK (post:=al.q) (ap:=al.ap) (hkn s.f args b4) b4 hc e3 e6 e10 nn
 exact⟨e,c1,c2,al,e0,c3,c4,c5⟩
theorem ZZP (hKD:∀e,(KD e true).length=(KD e false).length) (hkn:∀f args,hint.heap f=false→known.call f args=none) (hmk:∀c∈inl.mks,Mk2.ok P KD hint known c) {fuel:Nat} {s:Spc} {vcs:List VC} (ht:ZFe P KD hint known tab) (hchk:ZGO P KD hint tab inl fuel (ZKw s) s=some vcs) (hvcs:VCs P KD vcs):ZK0 P KD hint known s.f s.ps s.al s.sm s.pre none:=by
 cases hl:s.lim with
 |none=> exact fun args ha hp hs hq _ nn=> ZPT hKD hkn hmk ht hchk hvcs args ha hp hs hq (fun t _ p c p' c' hh=> by rw[hl] at hh;cases hh) nn
 |some l=>
  obtain⟨p,c0⟩:=l
  have hsr:ZKw s=[(s,0)]:=by unfold ZKw;rw[hl]
  have all:∀N,ZK0 P KD hint known s.f s.ps s.al s.sm s.pre (some (p,c0,N)):=by
   intro N
   induction N with
   |zero=> exact fun args _ _ _ _ hh=> absurd (hh _ _ _ rfl) (Nat.not_lt_zero _)
   |succ N ih=>
    intro args ha hp hs hq hh nn
    refine ZPT hKD hkn hmk ht hchk hvcs args ha hp hs hq (fun t htm p1 c1 p' c' h1 h2=> ?_) nn
    rw[hsr] at htm
    obtain rfl:=List.mem_singleton.1 htm
    rw[hl] at h1 h2
    cases h1
    cases h2
    exact ih.mono (Nat.le_of_lt_succ (hh _ _ _ rfl))
  exact fun args ha hp hs hq _ nn=> all (mes p c0 args+1) args ha hp hs hq (fun p' c' N hh=> by cases hh;exact Nat.lt_succ_self _) nn
theorem ZZO (hKD:∀e,(KD e true).length=(KD e false).length) (hkn:∀f args,hint.heap f=false→known.call f args=none) (hmk:∀c∈inl.mks,Mk2.ok P KD hint known c) {fuel:Nat} {s g:Spc} {p c p' c':Nat} {vs vg:List VC} (hs:s.lim=some (p,c)) (hg:g.lim=some (p',c')) (ht:ZFe P KD hint known tab)
 (hcg:ZGO P KD hint tab inl fuel [(s,0)] g=some vg) (hvg:VCs P KD vg) (hcs:ZGO P KD hint tab inl fuel [(s,0),(g,1)] s=some vs) (hvs:VCs P KD vs):
 ZK0 P KD hint known s.f s.ps s.al s.sm s.pre none∧ZK0 P KD hint known g.f g.ps g.al g.sm g.pre none:=by
 have all:∀N,ZK0 P KD hint known s.f s.ps s.al s.sm s.pre (some (p,c,N))∧ZK0 P KD hint known g.f g.ps g.al g.sm g.pre (some (p',c',N)):=by
  intro N
  induction N with
  |zero=> exact⟨fun args _ _ _ _ hh=> absurd (hh _ _ _ rfl) (Nat.not_lt_zero _),fun args _ _ _ _ hh=> absurd (hh _ _ _ rfl) (Nat.not_lt_zero _)⟩
  |succ N ih=>
   have hG:ZK0 P KD hint known g.f g.ps g.al g.sm g.pre (some (p',c',N+1)):=by
    intro args ha hp hsm hq hh nn
    refine ZPT hKD hkn hmk ht hcg hvg args ha hp hsm hq (fun t htm p1 c1 p2 c2 h1 h2=> ?_) nn
    obtain rfl:=List.mem_singleton.1 htm
    rw[hg] at h1
    rw[hs] at h2
    cases h1
    cases h2
    exact ih.1.mono (Nat.le_of_lt_succ (hh _ _ _ rfl))
   refine⟨?_,hG⟩
   intro args ha hp hsm hq hh nn
   refine ZPT hKD hkn hmk ht hcs hvs args ha hp hsm hq (fun t htm p1 c1 p2 c2 h1 h2=> ?_) nn
   rw[hs] at h1
   cases h1
   have hm:mes p c args < N+1:=hh _ _ _ rfl
   rcases List.mem_cons.1 htm with rfl|htm
   ·rw[hs] at h2
    cases h2
    exact ih.1.mono (Nat.le_of_lt_succ hm)
   ·obtain rfl:=List.mem_singleton.1 htm
    rw[hg] at h2
    cases h2
    exact hG.mono hm
 exact⟨fun args ha hp hsm hq _ nn=> (all (mes p c args+1)).1 args ha hp hsm hq (fun p' c' N hh=> by cases hh;exact Nat.lt_succ_self _) nn,
  fun args ha hp hsm hq _ nn=> (all (mes p' c' args+1)).2 args ha hp hsm hq (fun p' c' N hh=> by cases hh;exact Nat.lt_succ_self _) nn⟩
theorem ZSi {fuel:Nat} {rc:List (Spc×Nat)} {s:Spc} {vcs:List VC} (hchk:ZGO P KD hint tab inl fuel rc s=some vcs):hint.frame s.f=false:=by
 unfold ZGO at hchk
 split at hchk
 ·split at hchk
  ·simp only at hchk
   rename_i fn _ _ _ _
   cases hb:Nat.blt fn.ntmps 1048576 && Nat.ble s.ps.length fn.ntmps && !hint.frame s.f && !hint.heap s.f && A.bels (ZPd s).nx 0 (ZL1 s.ps s.sm).1 with
   |false=> rw[hb] at hchk;cases hchk
   |true=>
    rw[Bool.and_eq_true,Bool.and_eq_true,Bool.and_eq_true,Bool.and_eq_true] at hb
    simpa using hb.1.1.2
  ·cases hchk
 ·cases hchk
theorem ZKF (hKD:∀e,(KD e true).length=(KD e false).length) (hkn:∀f args,hint.heap f=false→known.call f args=none) (hmk:∀c∈inl.mks,Mk2.ok P KD hint known c) {fuel:Nat} {s:Spc} {vcs:List VC} (ht:ZFe P KD hint known tab) (hchk:ZGO P KD hint tab inl fuel (ZKw s) s=some vcs) (hvcs:VCs P KD vcs):ZFe P KD hint known (s.ce::tab):=by
 intro e he
 rcases List.mem_cons.1 he with rfl|he
 ·exact⟨rfl,ZZP hKD hkn hmk ht hchk hvcs,ZSi hchk⟩
 ·exact ht e he
theorem ZZN (hKD:∀e,(KD e true).length=(KD e false).length) (hkn:∀f args,hint.heap f=false→known.call f args=none) (hmk:∀c∈inl.mks,Mk2.ok P KD hint known c) {fuel:Nat} {s g:Spc} {p c p' c':Nat} {vs vg:List VC} (hs:s.lim=some (p,c)) (hg:g.lim=some (p',c')) (ht:ZFe P KD hint known tab)
 (hcg:ZGO P KD hint tab inl fuel [(s,0)] g=some vg) (hvg:VCs P KD vg) (hcs:ZGO P KD hint tab inl fuel [(s,0),(g,1)] s=some vs) (hvs:VCs P KD vs):ZFe P KD hint known (s.ce::g.ce::tab):=by
 obtain⟨h1,h2⟩:=ZZO hKD hkn hmk hs hg ht hcg hvg hcs hvs
 intro e he
 rcases List.mem_cons.1 he with rfl|he
 ·exact⟨rfl,h1,ZSi hcs⟩
 ·rcases List.mem_cons.1 he with rfl|he
  ·exact⟨rfl,h2,ZSi hcg⟩
  ·exact ht e he
end
end
end
end Go.Ae
end
