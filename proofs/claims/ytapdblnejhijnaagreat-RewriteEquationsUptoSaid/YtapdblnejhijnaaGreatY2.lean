/- Symbolic runs: operations. -/
import Derived.Test.YtapdblnejhijnaaGreatY1
set_option linter.all false
noncomputable section
namespace Go.Ae
section
section
def ZNf:List Fact→Nat→Option Bool
 |[],_=> none
 |.kb y b::l,x=> cond (Nat.beq y x) (some b) (ZNf l x)
 |_::l,x=> ZNf l x
def ZOi:List Fact→Nat→Q→Int→Option (Nat×Nat)
 |[],_,_,_=> none
 |.el y q k b n::l,x,q',k'=> cond (Nat.beq y x && Q.beq q q' && decide (k=k')) (some (b,n)) (ZOi l x q' k')
 |_::l,x,q',k'=> ZOi l x q' k'
section
variable (P:Program) (KD:TypeId→Bool→List K)
def unA (a:SS) (op:UnOp) (x:A):Option (List (A×SS×AF)):=
 match op with
 |.not=> match x with
  |.k (.bool b)=> one (.k (.bool !b)) a
  |.s u=> match ZNf a.fs u with
   |some b=> one (.k (.bool !b)) a
   |none=> match ZFS a u with
    |some .bool=> ZK3 .bool [.imp a.nx true (.kb u false),.imp a.nx false (.kb u true)] a
    |_=> none
  |_=> none
 |_=> none
def ZVk (a:SS) (k:IntKind) (x:A):Option (List (A×SS×AF)):=
 match ZLM a x with
 |some kx=> match K.ik kx with
  |some i=> cond (decide (i=.i64) && decide (k=.i64)) (one x a) (ZK3 (.int k) [] a)
  |none=> none
 |none=> none
def ZSl (a:SS) (d:TypeDesc) (x:A):Option (List (A×SS×AF)):=
 match d with
 |.int k=> match x with
  |.k (.int _ n)=> one (.k (.int k (k.wrap n))) a
  |x=> ZVk a k x
 |.string=> match ZLM a x with
  |some kx=> cond (isStr kx) (one x a) none
  |none=> none
 |_=> none
def ZOo (a:SS) (x:Nat) (e:TypeId):List Fact→Bool
 |[]=> false
 |.rf y e' q k::l=> (Nat.beq y x && Nat.beq e' e && ent a 4 (.l x) q k)||ZOo a x e l
 |_::l=> ZOo a x e l
def ZNS (a:SS) (x:Nat):Option K:=
 match ZFS a x with
 |some (.sl e false n)=> cond (ZOo a x e a.fs) (some (.sl e true n)) (some (.sl e false n))
 |k=> k
def bdA (a:SS) (d:Q×Int):Option A→Option (Q×Int)
 |none=> some d
 |some x=> ZKT a x
def ZMT (a:SS) (z:Nat) (p:Q) (i:Int) (q:Q) (j:Int):List Fact:=
 [.c (.l a.nx) (.l z) 0,.c (.r a.nx) (.r z) (cond (ent a 4 .z p (i - 1)) (-1) 0),.c (.n z) (.n a.nx) (cond (ent a 4 .z p (i - 1)) (-1) 0)]++
 (match p with
  |.z=> [.c (.l a.nx) q (j - i),.c q (.l a.nx) (i - j)]
  |_=> [.c (.l a.nx) q j])
def slQ (b1 b2:Bool):List V→Prop:=fun l=> ∃(cs:List V) (n sz:Nat) (o:Own) (L H:Nat) (o':Own) (i i':IntKind),l=.vs cs n sz o::(cond b1 [.int i (L:Nat)] []++cond b2 [.int i' (H:Nat)] []++[.vs ((cs.drop (L * sz)).take ((H - L) * sz)) (H - L) sz o'])∧L≤H∧H≤n∧(b1=false→L=0)∧(b2=false→H=n)
def ZTQ (a:SS) (t:TypeId) (x:A) (lo hi mx:Option A):Option (List (A×SS×AF)):=
 match mx,x with
 |none,.s z=> match bdA a (.z,0) lo,bdA a (.l z,0) hi with
  |some (p,i),some (q,j)=> cond (ent a 4 .z p i && ent a 4 p q (j - i) && ent a 4 q (.l z) (-j)) (match und P t,ZNS a z with
   |.slice e,some (.sl e' rf n)=> cond (Nat.beq e e' && okT P e && (ZMw a z||ent a 4 q (.l z) (-j - 1)) && ent a 4 .z (.l z) (-1) && Nat.blt 0 (ZmI P e)) (ZK3 (.sl e' rf n) (pF a (slQ lo.isSome hi.isSome) (.s z::(lo.toList++hi.toList))++ZMT a z p i q j) a) none
   |.string,some (.str n)=> ZK3 (.str n) ((ZMT a z p i q j).filter fun F=> match F with
    |.c (.r _) _ _=> false
    |.c (.n _) _ _=> false
    |_=> true) a
   |_,_=> none) none
  |_,_=> none
 |_,_=> none
def ZSx (a:SS) (fl:Field) (x:A):Option (List (A×SS×AF)):=
 match x with
 |.loc b off=> one (.loc b (off+fl.offset)) a
 |.ip l z=> cond (Nat.ble fl.offset l.length) (one (.ip (l.drop fl.offset) z) a) none
 |_=> none
def ZNT (t:TypeId) (l:List A):Option A:=
 cond (ZDM P t) (cond (Nat.ble (ZmI P t) l.length) (some (.agg (l.take (ZmI P t)))) none) (cond (okU P t) l.head? none)
def ZSw (a:SS) (fl:Field) (x:A):Option (List (A×SS×AF)):=
 match x with
 |.agg l=> match ZNT P fl.type (l.drop fl.offset) with
  |some y=> one y a
  |none=> none
 |_=> none
def ZLz (k:K) (p:Option Nat) (a:SS):SS:=knows (match p with
 |some q=> [.c (.r a.nx) (.r q) (-1),.c (.n q) (.n a.nx) (-1)]
 |none=> []) (a.fresh (some ⟨k,true⟩))
def ZKu:List K→Option Nat→SS→List A×SS
 |[],_,a=> ([],a)
 |k::ks,p,a=> ((.s a.nx)::(ZKu ks p (ZLz k p a)).1,(ZKu ks p (ZLz k p a)).2)
def ZQq:A→Bool
 |.k (.int _ _)=> true
 |_=> false
def ZRo (a:SS) (q:Q) (k:Int):Nat→Option Nat
 |0=> none
 |N+1=> cond (ent a 4 .z q (k - N) && ent a 4 q .z (N - k)) (some N) (ZRo a q k N)
def ZSX (a:SS) (t:TypeId) (x i:A):Option (List (A×SS×AF)):=
 match x,ZKT a i with
 |.s z,some (q,k)=> match und P t,ZNS a z with
  |.slice e,some (.sl e' rf _)=> cond (Nat.beq e e' && okT P e && ent a 4 .z q k && ent a 4 q (.l z) (-k - 1))
   (match ZOi a.fs z q k with
   |some (b,n)=> one (.ip (ZLX (b+1) n) b) a
   |none=> match ZKu (KD e' rf) (some z) (a.fresh none) with
    |(l,a')=> one (.ip l a.nx) (a'.knowB (.el z q k a.nx l.length))) none
  |_,_=> none
 |.lit l n z,some (q,k)=> match und P t,ZRo a q k n with
  |.slice e,some N=> cond (okT P e && Nat.beq z (ZmI P e) && l.all ZQq) (one (.ip (l.drop (N * z)) a.nx) (a.fresh none)) none
  |_,_=> none
 |_,_=> none
def ZSW (a:SS) (t:TypeId) (x i:A):Option (List (A×SS×AF)):=
 match x with
 |.s z=> match ZKT a i with
  |some (q,k)=> match und P t,ZFS a z with
   |.string,some kz=> cond (isStr kz && ent a 4 .z q k && ent a 4 q (.l z) (-k - 1)) (ZK3 (.int .u8) [] a) none
   |_,_=> none
  |none=> none
 |.agg l=> match i,und P t with
  |.k (.int _ j),.array len e=> cond (leI 0 j && leI (j+1) len && okT P e) (match ZNT P e (l.drop (j.toNat * ZmI P e)) with
   |some y=> one y a
   |none=> none) none
  |_,_=> none
 |_=> none
def ZSv (a:SS) (x:A) (i:Nat):Option (List (A×SS×AF)):=
 match x with
 |.tup l=> match l[i]? with
  |some y=> one y a
  |none=> none
 |_=> none
def ZTf (a:SS) (t:TypeId) (x:A):Option (List (A×SS×AF)):=
 match und P t,x with
 |.string,.k (.str s)=> one (.k (.int .i64 s.size)) a
 |.string,.s z=> match ZFS a z with
  |some k=> cond (isStr k) (one (.len z) a) none
  |none=> none
 |.slice _,.k .nils=> one (.k (.int .i64 0)) a
 |.slice _,.lit _ n _=> one (.k (.int .i64 n)) a
 |.slice _,.s z=> match ZFS a z with
  |some (.sl _ _ _)=> one (.len z) a
  |_=> none
 |_,_=> none
def ZXn (mx:Bool) (a:SS) (p:Q) (i:Int) (q:Q) (j:Int):List Fact:=
 cond mx [.c p (.v a.nx) (-i),.c q (.v a.nx) (-j)] [.c (.v a.nx) p i,.c (.v a.nx) q j]
def ZRp (mx:Bool) (a:SS) (x y:A):Option (List (A×SS×AF)):=
 match ZLM a x,ZLM a y with
 |some kx,some ky=> match K.ik kx,K.ik ky with
  |some i,some j=> if i=j then (match ZKT a x,ZKT a y with
   |some (p,k),some (q,l)=> ZK3 (.int i) (ZXn mx a p k q l) a
   |_,_=> none) else none
  |_,_=> none
 |_,_=> none
variable {P KD}
variable {ρ:Nat→V} {m:Nat→Nat} {a:SS} {f:Nat→V} {nb n:Nat} {g:Nat→Blk}
theorem ZP6:∀{l:List Fact} {x:Nat} {b:Bool},(∀F∈l,F.ok P KD ρ)→ZNf l x=some b→ρ x=.bool b
 |[],_,_,_,h=> by cases h
 |F::l,x,b,hl,h=> by
  have ih:=ZP6 (l:=l) (x:=x) (b:=b) fun G hG=> hl G (List.mem_cons_of_mem _ hG)
  have hF:=hl F (List.mem_cons_self ..)
  cases F with
  |kb y c=>
   have h:cond (Nat.beq y x) (some c) (ZNf l x)=some b:=h
   cases hb:Nat.beq y x with
   |true=>
    rw[hb] at h
    cases h
    rw[←Nat.eq_of_beq_eq_true hb];exact hF
   |false=> rw[hb] at h;exact ih h
  |_=> exact ih h
theorem ZSy:∀{l:List Fact} {x:Nat} {q:Q} {k:Int} {b n:Nat},ZOi l x q k=some (b,n)→Fact.el x q k b n∈l
 |[],_,_,_,_,_,h=> by cases h
 |F::l,x,q,k,b,n,h=> by
  have ih:=ZSy (l:=l) (x:=x) (q:=q) (k:=k) (b:=b) (n:=n)
  cases F with
  |el y q' k' b' n'=>
   have h:cond (Nat.beq y x && Q.beq q' q && decide (k'=k)) (some (b',n')) (ZOi l x q k)=some (b,n):=h
   cases hb:Nat.beq y x && Q.beq q' q && decide (k'=k) with
   |true=>
    rw[hb] at h
    cases h
    rw[Bool.and_eq_true,Bool.and_eq_true,decide_eq_true_eq] at hb
    rw[Nat.eq_of_beq_eq_true hb.1.1,Q.beq_eq hb.1.2,hb.2]
    exact List.mem_cons_self ..
   |false=> rw[hb] at h;exact List.mem_cons_of_mem _ (ih h)
  |_=> exact List.mem_cons_of_mem _ (ih h)
theorem Z22 (h:Rel P KD ρ m a f nb g) {op:UnOp} {x:A} {rs:List (A×SS×AF)} (hr:unA a op x=some rs):∃e,xUn op (x.den ρ m)=some e∧∃r∈rs,ZGK P KD ρ m a f nb g e r:=by
 unfold unA at hr
 split at hr
 ·split at hr
  ·exact⟨_,rfl,ZKv h hr rfl⟩
  ·rename_i u
   split at hr
   ·rename_i b hb
    have hv:=ZP6 (fun F hF=> (h.fs F hF).2) hb
    show∃e,xUn .not (ρ u)=some e∧_
    rw[hv]
    exact⟨_,rfl,ZKv h hr rfl⟩
   ·split at hr
    ·rename_i hk
     obtain⟨ht,hlt⟩:=ZGN h hk
     show∃e,xUn .not (ρ u)=some e∧_
     generalize hv:ρ u=v at ht
     cases ht with
     |bool=>
      rename_i b
      refine⟨_,rfl,zXW h hr .bool rfl fun F hF=> ?_⟩
      rcases List.mem_cons.1 hF with rfl|hF
      ·intro hx
       rw[zag] at hx
       show at1 ρ a.nx _ u=_
       rw[QF _ _ (by omega),hv]
       cases b <;> first|rfl|cases hx
      ·obtain rfl:=List.mem_singleton.1 hF
       intro hx
       rw[zag] at hx
       show at1 ρ a.nx _ u=_
       rw[QF _ _ (by omega),hv]
       cases b <;> first|rfl|cases hx
    ·cases hr
  ·cases hr
 ·cases hr
theorem ZZU (h:Rel P KD ρ m a f nb g) {d:TypeDesc} {x:A} {rs:List (A×SS×AF)} (hr:ZSl a d x=some rs):∃e,ZFG d (x.den ρ m)=some e∧∃r∈rs,ZGK P KD ρ m a f nb g e r:=by
 unfold ZSl at hr
 split at hr
 ·rename_i k
  split at hr
  ·exact⟨_,rfl,ZKv h hr rfl⟩
  ·unfold ZVk at hr
   split at hr
   ·rename_i kx hkx
    split at hr
    ·rename_i i hi
     obtain⟨p,hp,hw⟩:=(ZMt h hkx).ik hi
     rw[hp]
     cases hb:decide (i=.i64) && decide (k=.i64) with
     |true=>
      rw[hb] at hr
      rw[Bool.and_eq_true,decide_eq_true_eq,decide_eq_true_eq] at hb
      obtain⟨rfl,rfl⟩:=hb
      have:=ZUT hw
      refine⟨{v:=.int .i64 p},?_,ZKv h hr hp.symm⟩
      show some ({v:=V.int .i64 (IntKind.wrap .i64 p)}:Eff)=_
      rw[za4 (by omega) (by omega)]
     |false=>
      rw[hb] at hr
      exact⟨_,rfl,ZNV h hr (.int (ZON ..)) rfl⟩
    ·cases hr
   ·cases hr
 ·split at hr
  ·rename_i kx hkx
   cases hb:isStr kx with
   |false=> rw[hb] at hr;cases hr
   |true=>
    rw[hb] at hr
    obtain⟨p,hp⟩:=(ZMt h hkx).isStr hb
    rw[hp]
    exact⟨_,rfl,ZKv h hr hp.symm⟩
  ·cases hr
 ·cases hr
theorem ZZf {ks:List K}:∀{ks0:List K} {n:Nat} {cells:List V},TKn P KD ks0 n cells→ks0.length=ks.length→(∀i,i < n→∃a b,cells.drop (i * ks.length)=a++b∧TKs P KD ks a)→TKn P KD ks n cells
 |ks0,0,_,.nil,_,_=> .nil
 |ks0,n+1,_,.cons (a:=a) (b:=b) h ht,hl,hi=> by
  have hal:a.length=ks.length:=h.len.trans hl
  obtain⟨c,d,e1,e2⟩:=hi 0 (by omega)
  rw[Nat.zero_mul,List.drop_zero] at e1
  have hc:a=c:=by
   have:=congrArg (List.take ks.length) e1
   rw[List.take_left' e2.len,List.take_left' hal] at this
   exact this
  subst hc
  refine .cons e2 (ZZf ht hl fun i hlt=> ?_)
  obtain⟨c,d,e1,e2⟩:=hi (i+1) (by omega)
  refine⟨c,d,?_,e2⟩
  rw[show(i+1) * ks.length=a.length+i * ks.length by rw[hal,Nat.succ_mul];omega,←List.drop_drop,List.drop_left] at e1
  exact e1
theorem ZWO (h:Rel P KD ρ m a f nb g) {x:Nat} {e:TypeId}:∀{l:List Fact},(∀F∈l,F.ok P KD ρ)→ZOo a x e l=true→∀cs len sz o,ρ x=.vs cs len sz o→∀N:Nat,N < len→∃a b,cs.drop (N * sz)=a++b∧TKs P KD (KD e true) a
 |[],_,hh=> by cases hh
 |F::l,hl,hh=> by
  have ih:=ZWO h (x:=x) (e:=e) (l:=l) fun G hG=> hl G (List.mem_cons_of_mem _ hG)
  have hF:=hl F (List.mem_cons_self ..)
  cases F with
  |rf y e' q k=>
   have hh:((Nat.beq y x && Nat.beq e' e && ent a 4 (.l x) q k)||ZOo a x e l)=true:=hh
   rw[Bool.or_eq_true,Bool.and_eq_true,Bool.and_eq_true] at hh
   rcases hh with ⟨⟨h1,h2⟩,h3⟩|hh
   ·have h1:=Nat.eq_of_beq_eq_true h1
    have h2:=Nat.eq_of_beq_eq_true h2
    subst h1 h2
    have h3:=ZGI h h3
    intro cs len sz o hx N hN
    refine hF cs len sz o hx N ?_ hN
    simp only[Q.val,hx,V.lenN] at h3
    have h3':(len:Int) - q.val ρ≤k:=h3
    omega
   ·exact ih hh
  |_=> exact ih hh
theorem ZRk (h:Rel P KD ρ m a f nb g) (hKD:∀e,(KD e true).length=(KD e false).length) {x:Nat} {k:K} (hk:ZNS a x=some k):TK P KD k (ρ x)∧x < a.nx:=by
 unfold ZNS at hk
 split at hk
 ·rename_i e n hks
  obtain⟨ht,hlt⟩:=ZGN h hks
  cases hb:ZOo a x e a.fs with
  |false=>
   rw[hb] at hk
   cases hk
   exact⟨ht,hlt⟩
  |true=>
   rw[hb] at hk
   cases hk
   refine⟨?_,hlt⟩
   have hrf:=ZWO h (fun F hF=> (h.fs F hF).2) hb
   generalize hv:ρ x=v at ht
   cases ht with
   |nils=> exact .nils
   |ze=> exact .ze
   |vs hz hn hm hp htn=>
    refine .vs ((hKD e).trans hz) hn hm hp (ZZf htn (hKD e).symm fun i hi=> ?_)
    rw[(hKD e).trans hz]
    exact hrf _ _ _ _ hv i hi
 ·exact ZGN h hk
theorem ZPO (h:Rel P KD ρ m a f nb g) {d:Q×Int} (hd:d.1.bel a.nx=true) {x:Option A} {q:Q} {k:Int} (hx:bdA a d x=some (q,k)):q.bel a.nx=true∧((x=none∧d=(q,k))∨∃i,x.map (A.den ρ m)=some (.int i (q.val ρ+k))):=by
 cases x with
 |none=> cases hx;exact⟨hd,Or.inl ⟨rfl,rfl⟩⟩
 |some x=>
  obtain⟨i,n,h1,rfl,h3⟩:=ZMN h hx
  exact⟨h3,Or.inr ⟨i,congrArg some h1⟩⟩
theorem ZU8 {len lo hi:Nat} {x y:Option V} (h1:lo≤hi) (h2:hi≤len) (hx:(x=none∧lo=0)∨∃i,x=some (.int i (lo:Int))) (hy:(y=none∧hi=len)∨∃i,y=some (.int i (hi:Int))):ZD7 len len x y none=some (lo,hi,len):=by
 have e1:bd1 (some len) len y=some hi:=by
  rcases hy with ⟨rfl,rfl⟩|⟨i,rfl⟩
  ·rfl
  ·show(if (0:Int)≤(hi:Int)∧(hi:Int)≤(len:Int) then some (hi:Int).toNat else none)=_
   rw[if_pos (by omega)];rfl
 have e2:bd1 (some 0) hi x=some lo:=by
  rcases hx with ⟨rfl,rfl⟩|⟨i,rfl⟩
  ·rfl
  ·show(if (0:Int)≤(lo:Int)∧(lo:Int)≤(hi:Int) then some (lo:Int).toNat else none)=_
   rw[if_pos (by omega)];rfl
 show(match bd1 (some len) len y with
  |none=> none
  |some h=> match bd1 (some 0) h x with
   |none=> none
   |some l=> some (l,h,len))=_
 rw[e1]
 simp only
 rw[e2]
theorem ZXW {z:Nat} {p q:Q} {i j:Int} {v:V} (h:Rel P KD ρ m a f nb g) (hz:z < a.nx) (hp:p.bel a.nx=true) (hq:q.bel a.nx=true) {lo hi:Nat} (hlo:(lo:Int)=p.val ρ+i) (hhi:(hi:Int)=q.val ρ+j) (h2:lo≤hi) (hlz:hi≤V.lenN (ρ z)) (hl:V.lenN v=hi - lo) (hrk:(V.rk v:Int) - V.rk (ρ z)≤0∧(1≤lo→(V.rk v:Int) - V.rk (ρ z)≤ -1)):
 ∀F∈ZMT a z p i q j,F.ok P KD (at1 ρ a.nx v):=by
 have oz:at1 ρ a.nx v z=ρ z:=QF _ _ (by omega)
 have on:at1 ρ a.nx v a.nx=v:=zag _ _ _
 intro F hF
 unfold ZMT at hF
 rcases List.mem_append.1 hF with hF|hF
 ·rcases List.mem_cons.1 hF with rfl|hF
  ·show((V.lenN (at1 ρ a.nx v a.nx):Nat):Int) - ((V.lenN (at1 ρ a.nx v z):Nat):Int)≤0
   rw[on,oz,hl];omega
  ·have key:(V.rk v:Int) - V.rk (ρ z)≤cond (ent a 4 .z p (i - 1)) (-1) 0:=by
    cases he:ent a 4 .z p (i - 1) with
    |false=> exact hrk.1
    |true=>
     have:=ZGI h he
     rw[ZKL] at this
     exact hrk.2 (by omega)
   rcases List.mem_cons.1 hF with rfl|hF
   ·show((V.rk (at1 ρ a.nx v a.nx):Nat):Int) - ((V.rk (at1 ρ a.nx v z):Nat):Int)≤_
    rw[on,oz];exact key
   ·obtain rfl:=List.mem_singleton.1 hF
    show -((V.rk (at1 ρ a.nx v z):Nat):Int) - -((V.rk (at1 ρ a.nx v a.nx):Nat):Int)≤_
    rw[on,oz];omega
 ·split at hF
  ·rw[ZKL] at hlo
   rcases List.mem_cons.1 hF with rfl|hF
   ·show((V.lenN (at1 ρ a.nx v a.nx):Nat):Int) - q.val (at1 ρ a.nx v)≤_
    rw[on,ZK9 hq,hl];omega
   ·obtain rfl:=List.mem_singleton.1 hF
    show q.val (at1 ρ a.nx v) - ((V.lenN (at1 ρ a.nx v a.nx):Nat):Int)≤_
    rw[on,ZK9 hq,hl];omega
  ·obtain rfl:=List.mem_singleton.1 hF
   show((V.lenN (at1 ρ a.nx v a.nx):Nat):Int) - q.val (at1 ρ a.nx v)≤_
   rw[on,ZK9 hq,hl];omega
theorem Z2v (h:Rel P KD ρ m a f nb g) (hKD:∀e,(KD e true).length=(KD e false).length) {t:TypeId} {x:A} {lo hi mx:Option A} {rs:List (A×SS×AF)} (hr:ZTQ P a t x lo hi mx=some rs):
 ∃w,ZE4 P t (x.den ρ m) (lo.map (A.den ρ m)) (hi.map (A.den ρ m)) (mx.map (A.den ρ m))=some w∧∃r∈rs,ZGK P KD ρ m a f nb g {v:=w} r:=by
 unfold ZTQ at hr
 split at hr
 ·rename_i z
  split at hr
  ·rename_i p i q j hlo hhi
   cases hb:ent a 4 .z p i && ent a 4 p q (j - i) && ent a 4 q (.l z) (-j) with
   |false=> rw[hb] at hr;cases hr
   |true=>
    rw[hb] at hr
    simp only[cond_true] at hr
    rw[Bool.and_eq_true,Bool.and_eq_true] at hb
    obtain⟨⟨b1,b2⟩,b3⟩:=hb
    have b1:=ZGI h b1
    have b2:=ZGI h b2
    have b3:=ZGI h b3
    rw[ZKL] at b1
    simp only[show(Q.l z).val ρ=((V.lenN (ρ z):Nat):Int) from rfl] at b3
    obtain⟨L,hL⟩:=Int.eq_ofNat_of_zero_le (show 0≤p.val ρ+i by omega)
    obtain⟨H,hH⟩:=Int.eq_ofNat_of_zero_le (show 0≤q.val ρ+j by omega)
    have hLH:L≤H:=by omega
    have hHl:H≤V.lenN (ρ z):=by omega
    show∃w,ZE4 P t (ρ z) (lo.map (A.den ρ m)) (hi.map (A.den ρ m)) none=some w∧_
    split at hr
    ·rename_i e e' rf n hu hk
     obtain⟨ht,hzn⟩:=ZRk h hKD hk
     obtain⟨hpb,hlo'⟩:=ZPO h (d:=(.z,0)) rfl hlo
     obtain⟨hqb,hhi'⟩:=ZPO h (d:=(.l z,0)) (ZKy hzn) hhi
     have hx:(lo.map (A.den ρ m)=none∧L=0)∨∃i,lo.map (A.den ρ m)=some (.int i (L:Int)):=by
      rcases hlo' with ⟨rfl,he⟩|⟨k,he⟩
      ·cases he
       left
       refine⟨rfl,?_⟩
       rw[ZKL] at hL;omega
      ·right;exact⟨k,by rw[he,hL]⟩
     have hy:(hi.map (A.den ρ m)=none∧H=V.lenN (ρ z))∨∃i,hi.map (A.den ρ m)=some (.int i (H:Int)):=by
      rcases hhi' with ⟨rfl,he⟩|⟨k,he⟩
      ·cases he
       left
       refine⟨rfl,?_⟩
       have:((V.lenN (ρ z):Nat):Int)+0=(H:Int):=hH
       omega
      ·right;exact⟨k,by rw[he,hH]⟩
     cases hc:Nat.beq e e' && okT P e && (ZMw a z||ent a 4 q (.l z) (-j - 1)) && ent a 4 .z (.l z) (-1) && Nat.blt 0 (ZmI P e) with
     |false=> rw[hc] at hr;cases hr
     |true=>
      rw[hc] at hr
      rw[Bool.and_eq_true,Bool.and_eq_true,Bool.and_eq_true,Bool.and_eq_true] at hc
      obtain⟨⟨⟨⟨he,hok⟩,hpu⟩,hne⟩,hsz⟩:=hc
      have he:=Nat.eq_of_beq_eq_true he
      subst he
      have hne:=ZGI h hne
      have hsz:=ZGM hsz
      have hpu:V.pure (ρ z)=true∨H < V.lenN (ρ z):=by
       rw[Bool.or_eq_true] at hpu
       rcases hpu with hpu|hpu
       ·exact Or.inl (ZRA h hpu).1
       ·have:=ZGI h hpu
        simp only[show(Q.l z).val ρ=((V.lenN (ρ z):Nat):Int) from rfl] at this
        exact Or.inr (by omega)
      rw[ZKL] at hne
      simp only[show(Q.l z).val ρ=((V.lenN (ρ z):Nat):Int) from rfl] at hne
      have hold:∀v:V,V.lenN v=H - L→((V.rk v:Int) - V.rk (ρ z)≤0∧(1≤L→(V.rk v:Int) - V.rk (ρ z)≤ -1))→∀F∈ZMT a z p i q j,F.ok P KD (at1 ρ a.nx v):=fun v h1 h2=> ZXW h hzn hpb hqb hL.symm hH.symm hLH hHl h1 h2
      have hdl:∀o:Option A,A.dens ρ m o.toList=(o.map (A.den ρ m)).toList:=by intro o;cases o <;> rfl
      have hden:A.dens ρ m (.s z::(lo.toList++hi.toList))=ρ z::((lo.map (A.den ρ m)).toList++(hi.map (A.den ρ m)).toList):=by
       rw[←hdl,←hdl,←ZLa];rfl
      have hsome:∀o:Option A,(o.map (A.den ρ m)).isSome=o.isSome:=by intro o;cases o <;> rfl
      generalize hv:ρ z=v at ht hold hHl hy hpu hne hden
      cases ht with
      |nils=> simp only[V.lenN] at hne;omega
      |ze=> simp only[V.lenN] at hne;omega
      |vs hz hn hm hp htn=>
       rename_i cells len o
       have hHl:H≤len:=hHl
       have hy:(hi.map (A.den ρ m)=none∧H=len)∨∃i,hi.map (A.den ρ m)=some (.int i (H:Int)):=hy
       have hsl:∀o',slQ lo.isSome hi.isSome (A.dens ρ m (.s z::(lo.toList++hi.toList))++[.vs ((cells.drop (L * ZmI P e)).take ((H - L) * ZmI P e)) (H - L) (ZmI P e) o']):=by
        intro o'
        rw[hden,←hsome lo,←hsome hi]
        rcases hx with ⟨x1,x2⟩|⟨i1,x1⟩ <;> rcases hy with ⟨y1,y2⟩|⟨i2,y1⟩ <;> rw[x1,y1]
        ·exact⟨cells,len,_,o,L,H,o',.i64,.i64,rfl,hLH,hHl,fun _=> x2,fun _=> y2⟩
        ·exact⟨cells,len,_,o,L,H,o',.i64,i2,rfl,hLH,hHl,fun _=> x2,fun hh=> by cases hh⟩
        ·exact⟨cells,len,_,o,L,H,o',i1,.i64,rfl,hLH,hHl,(fun hh=> by cases hh),fun _=> y2⟩
        ·exact⟨cells,len,_,o,L,H,o',i1,i2,rfl,hLH,hHl,fun hh=> (by cases hh),fun hh=> by cases hh⟩
       have hbd:=ZU8 hLH hHl hx hy
       have key:∃o',V.pure (.vs [] 0 0 o')=true∧ZE4 P t (.vs cells len (ZmI P e) o) (lo.map (A.den ρ m)) (hi.map (A.den ρ m)) none=some (.vs ((cells.drop (L * ZmI P e)).take ((H - L) * ZmI P e)) (H - L) (ZmI P e) o'):=by
        unfold ZE4
        rw[hu]
        simp only[true_and,hok,if_true,hbd]
        refine⟨_,?_,rfl⟩
        rcases hpu with hpu|hpu
        ·cases o with
         |tok=> cases hpu
         |tight=> by_cases hh:H=len <;> simp[hh,V.pure]
         |lock=> by_cases hh:H=len <;> simp[hh,V.pure]
        ·have hpu:H < len:=hpu
         have hh:¬H=len:=by omega
         simp[hh,V.pure]
       obtain⟨o',ho1,ho'⟩:=key
       have hpart:=TKn.part (l:=L) (m:=H - L) htn (by omega)
       rw[hz] at hpart
       refine⟨_,ho',zXW h hr (.vs hz (by omega) (by omega) (Z18 _ _ (ZX5 _ _ hp)) hpart) ?_ (fun F hF=> (List.mem_append.1 hF).elim (ZNW (m:=m) (hsl o') F) (hold _ rfl ?_ F))⟩
       ·cases o' <;> first|rfl|cases ho1
       ·have r1:=Z2m ((H - L) * ZmI P e) (cells.drop (L * ZmI P e))
        have r2:=ZYf (L * ZmI P e) cells
        have r3:=ZMy (cells.take (L * ZmI P e)) (cells.drop (L * ZmI P e))
        rw[List.take_append_drop] at r3
        have r4:=ZYg (cells.take (L * ZmI P e))
        have r5:=htn.len
        rw[hz] at r5
        simp only[V.rk]
        refine⟨by omega,fun h1=> ?_⟩
        have:1≤(cells.take (L * ZmI P e)).length:=by
         rw[List.length_take,r5]
         have a1:1≤L * ZmI P e:=Nat.mul_pos h1 hsz
         have a2:1≤len * ZmI P e:=Nat.mul_pos (by omega) hsz
         omega
        omega
    ·rename_i n hu hk
     obtain⟨ht,hzn⟩:=ZRk h hKD hk
     obtain⟨hpb,hlo'⟩:=ZPO h (d:=(.z,0)) rfl hlo
     obtain⟨hqb,hhi'⟩:=ZPO h (d:=(.l z,0)) (ZKy hzn) hhi
     have hx:(lo.map (A.den ρ m)=none∧L=0)∨∃i,lo.map (A.den ρ m)=some (.int i (L:Int)):=by
      rcases hlo' with ⟨rfl,he⟩|⟨k,he⟩
      ·cases he
       left
       refine⟨rfl,?_⟩
       rw[ZKL] at hL;omega
      ·right;exact⟨k,by rw[he,hL]⟩
     have hy:(hi.map (A.den ρ m)=none∧H=V.lenN (ρ z))∨∃i,hi.map (A.den ρ m)=some (.int i (H:Int)):=by
      rcases hhi' with ⟨rfl,he⟩|⟨k,he⟩
      ·cases he
       left
       refine⟨rfl,?_⟩
       have:((V.lenN (ρ z):Nat):Int)+0=(H:Int):=hH
       omega
      ·right;exact⟨k,by rw[he,hH]⟩
     have hold:∀v:V,V.lenN v=H - L→((V.rk v:Int) - V.rk (ρ z)≤0∧(1≤L→(V.rk v:Int) - V.rk (ρ z)≤ -1))→∀F∈ZMT a z p i q j,F.ok P KD (at1 ρ a.nx v):=fun v h1 h2=> ZXW h hzn hpb hqb hL.symm hH.symm hLH hHl h1 h2
     have hold2:∀v:V,V.lenN v=H - L→∀F∈(ZMT a z p i q j).filter (fun F=> match F with
      |.c (.r _) _ _=> false
      |.c (.n _) _ _=> false
      |_=> true),F.ok P KD (at1 ρ a.nx v):=by
      intro v h1 F hF
      have hF:=List.mem_filter.1 hF
      have h2:=hF.2
      have h3:=hF.1
      unfold ZMT at h3
      have oz:at1 ρ a.nx v z=ρ z:=QF _ _ (by omega)
      have on:at1 ρ a.nx v a.nx=v:=zag _ _ _
      rcases List.mem_append.1 h3 with h3|h3
      ·rcases List.mem_cons.1 h3 with rfl|h3
       ·show((V.lenN (at1 ρ a.nx v a.nx):Nat):Int) - ((V.lenN (at1 ρ a.nx v z):Nat):Int)≤0
        rw[on,oz,h1];omega
       ·rcases List.mem_cons.1 h3 with rfl|h3
        ·cases h2
        ·obtain rfl:=List.mem_singleton.1 h3
         cases h2
      ·split at h3
       ·rw[ZKL] at hL
        rcases List.mem_cons.1 h3 with rfl|h3
        ·show((V.lenN (at1 ρ a.nx v a.nx):Nat):Int) - q.val (at1 ρ a.nx v)≤_
         rw[on,ZK9 hqb,h1];omega
        ·obtain rfl:=List.mem_singleton.1 h3
         show q.val (at1 ρ a.nx v) - ((V.lenN (at1 ρ a.nx v a.nx):Nat):Int)≤_
         rw[on,ZK9 hqb,h1];omega
       ·obtain rfl:=List.mem_singleton.1 h3
        show((V.lenN (at1 ρ a.nx v a.nx):Nat):Int) - q.val (at1 ρ a.nx v)≤_
        rw[on,ZK9 hqb,h1];omega
     generalize hv:ρ z=v at ht hHl hy
     cases ht with
     |str h1 h2=>
      rename_i s
      have hHl:H≤s.size:=hHl
      have hbd:=ZU8 hLH hHl hx hy
      have hse:(s.extract L H).size=H - L:=by
       rw[ByteArray.size_extract];omega
      refine⟨.str (s.extract L H),?_,zXW h hr (.str (by rw[hse];omega) (by rw[hse];omega)) rfl (hold2 _ (by show(s.extract L H).size=_;exact hse))⟩
      unfold ZE4
      rw[hu]
      simp only[Option.isSome_none,Bool.false_eq_true,if_false]
      rw[hbd]
    ·cases hr
  ·cases hr
 ·cases hr
theorem ZZ6 (h:Rel P KD ρ m a f nb g) {fl:Field} {x:A} {rs:List (A×SS×AF)} (hr:ZSx a fl x=some rs):
 ∃w,ZmN (x.den ρ m) fl.offset=some w∧∃r∈rs,ZGK P KD ρ m a f nb g {v:=w} r:=by
 unfold ZSx at hr
 split at hr
 ·exact⟨_,rfl,ZKv h hr rfl⟩
 ·rename_i l z
  cases hb:Nat.ble fl.offset l.length with
  |false=> rw[hb] at hr;cases hr
  |true=>
   rw[hb] at hr
   have hle:=Nat.le_of_ble_eq_true hb
   have hle':fl.offset≤(A.dens ρ m l).length:=by rw[ZLb];exact hle
   refine⟨_,Zy (by rw[List.length_append];omega),ZKv h hr ?_⟩
   show V.iptr _=V.iptr (A.dens ρ m (l.drop fl.offset)++(ρ z).cells)
   rw[ZMF,List.drop_append_of_le_length hle']
 ·cases hr
theorem ZPs {t:TypeId} {l:List A} {x:A} (hx:ZNT P t l=some x) (tl:List V):ZCC P t (A.dens ρ m l++tl)=some (x.den ρ m):=by
 unfold ZNT at hx
 unfold ZCC
 cases hb:ZDM P t with
 |true=>
  rw[hb] at hx
  simp only[cond_true] at hx
  cases hs:Nat.ble (ZmI P t) l.length with
  |false=> rw[hs] at hx;cases hx
  |true=>
   rw[hs] at hx
   cases hx
   have hle:=Nat.le_of_ble_eq_true hs
   have hle':ZmI P t≤(A.dens ρ m l).length:=by rw[ZLb];exact hle
   rw[if_pos rfl,if_pos (by rw[List.length_append];omega),List.take_append_of_le_length hle',←ZSo]
   rfl
 |false=>
  rw[hb] at hx
  simp only[cond_false] at hx
  cases hs:okU P t with
  |false=> rw[hs] at hx;cases hx
  |true=>
   rw[hs] at hx
   cases l with
   |nil=> cases hx
   |cons y l=> cases hx;rfl
theorem ZZ5 (h:Rel P KD ρ m a f nb g) {fl:Field} {x:A} {rs:List (A×SS×AF)} (hr:ZSw P a fl x=some rs):∃e,ZG6 P fl (x.den ρ m)=some e∧∃r∈rs,ZGK P KD ρ m a f nb g e r:=by
 unfold ZSw at hr
 split at hr
 ·rename_i l
  split at hr
  ·rename_i y hy
   refine⟨{v:=y.den ρ m},?_,ZKv h hr rfl⟩
   show val (ZCC P fl.type ((A.dens ρ m l).drop fl.offset))=_
   have:=ZPs (ρ:=ρ) (m:=m) hy []
   rw[List.append_nil,ZMF] at this
   rw[this];rfl
  ·cases hr
 ·cases hr
theorem ZWt (h:Rel P KD ρ m a f nb g) {k:K} {v:V} {p:Option Nat} (hk:TK P KD k v) (hpu:V.pure v=true) (hp:∀q,p=some q→q < a.nx∧V.rk v < V.rk (ρ q)):
 Rel P KD (at1 ρ a.nx v) m (ZLz k p a) f nb g∧(ZLz k p a).nx=a.nx+1∧(ZLz k p a).blks=a.blks∧(ZLz k p a).ap=a.ap:=by
 have h1:=h.fresh (v:=v) (i:=some ⟨k,true⟩) fun j hj=> by cases hj;exact⟨hk,fun _=> hpu⟩
 have hs:SameS (a.fresh (some ⟨k,true⟩)) (ZLz k p a):=.knows
 refine⟨h1.knows fun F hF=> ?_,hs.nx,hs.blks,hs.ap⟩
 split at hF
 ·rename_i q
  obtain⟨e1,e2⟩:=hp q rfl
  rcases List.mem_cons.1 hF with rfl|hF
  ·show((V.rk (at1 ρ a.nx v a.nx):Nat):Int) - ((V.rk (at1 ρ a.nx v q):Nat):Int)≤ -1
   rw[zag,QF _ _ (by omega)];omega
  ·obtain rfl:=List.mem_singleton.1 hF
   show -((V.rk (at1 ρ a.nx v q):Nat):Int) - -((V.rk (at1 ρ a.nx v a.nx):Nat):Int)≤ -1
   rw[zag,QF _ _ (by omega)];omega
 ·cases hF
theorem ZP9:∀{ks:List K} {vs:List V} {p:Option Nat} {a:SS} {ρ:Nat→V},Rel P KD ρ m a f nb g→TKs P KD ks vs→V.pures vs=true→(∀q,p=some q→q < a.nx∧∀v∈vs,V.rk v < V.rk (ρ q))→
 ∃ρ',(∀y,y < a.nx→ρ' y=ρ y)∧Rel P KD ρ' m (ZKu ks p a).2 f nb g∧A.dens ρ' m (ZKu ks p a).1=vs∧(ZKu ks p a).2.nx=a.nx+ks.length∧(ZKu ks p a).2.blks=a.blks∧(ZKu ks p a).1=ZLX a.nx ks.length∧(ZKu ks p a).2.ap=a.ap
 |[],_,p,a,ρ,h,.nil,_,_=> ⟨ρ,fun _ _=> rfl,h,rfl,rfl,rfl,rfl,rfl⟩
 |k::ks,_,p,a,ρ,h,.cons (v:=v) (vs:=vs) hk ht,hpu,hp=> by
  have hpu:(V.pure v && V.pures vs)=true:=hpu
  rw[Bool.and_eq_true] at hpu
  obtain⟨h1,n1,n2,n3⟩:=ZWt h hk hpu.1 fun q hq=> ⟨(hp q hq).1,(hp q hq).2 v (List.mem_cons_self ..)⟩
  obtain⟨ρ',e1,e2,e3,e4,e5,e6,e7⟩:=ZP9 (p:=p) h1 ht hpu.2 fun q hq=> by
   obtain⟨h1,h2⟩:=hp q hq
   rw[n1]
   exact⟨Nat.lt_succ_of_lt h1,fun w hw=> by rw[QF _ _ (by omega)];exact h2 w (List.mem_cons_of_mem _ hw)⟩
  rw[n1] at e1 e4 e6
  refine⟨ρ',fun y hy=> (e1 y (Nat.lt_succ_of_lt hy)).trans (QF _ _ (by omega)),e2,?_,?_,e5.trans n2,?_,e7.trans n3⟩
  ·show ρ' a.nx::A.dens ρ' m (ZKu ks p (ZLz k p a)).1=_
   rw[e3,e1 a.nx (Nat.lt_succ_self _),zag]
  ·show(ZKu ks p (ZLz k p a)).2.nx=_
   rw[e4,List.length_cons];omega
  ·show A.s a.nx::(ZKu ks p (ZLz k p a)).1=_
   rw[e6];rfl
theorem ZXh (h:Rel P KD ρ m a f nb g) {q:Q} {k:Int}:∀{n N:Nat},ZRo a q k n=some N→N < n∧q.val ρ+k=N
 |0,_,h1=> by cases h1
 |n+1,N,h1=> by
  unfold ZRo at h1
  cases hb:ent a 4 .z q (k - n) && ent a 4 q .z (n - k) with
  |false=>
   rw[hb] at h1
   have:=ZXh h h1
   exact⟨by omega,this.2⟩
  |true=>
   rw[hb] at h1
   cases h1
   rw[Bool.and_eq_true] at hb
   have b1:=ZGI h hb.1
   have b2:=ZGI h hb.2
   rw[ZKL] at b1 b2
   exact⟨by omega,by omega⟩
theorem ZYo:∀{l:List A},l.all ZQq=true→V.seals (A.dens ρ m l)=A.dens ρ m l
 |[],_=> rfl
 |x::l,h=> by
  rw[List.all_cons,Bool.and_eq_true] at h
  show V.shut (x.den ρ m)::V.seals (A.dens ρ m l)=_
  rw[ZYo h.2]
  cases x with
  |k v=> cases v <;> first|rfl|(have h1:=h.1;cases h1)
  |_=> have h1:=h.1;cases h1
theorem Z0s (h:Rel P KD ρ m a f nb g) (hKD:∀e,(KD e true).length=(KD e false).length) {t:TypeId} {x i:A} {rs:List (A×SS×AF)} (hr:ZSX P KD a t x i=some rs):
 ∃w,indexAddr P t (x.den ρ m) (i.den ρ m)=some w∧∃r∈rs,ZGK P KD ρ m a f nb g {v:=w} r:=by
 unfold ZSX at hr
 split at hr
 ·rename_i z q k hli
  split at hr
  ·rename_i e e' rf n hu hk
   cases hb:Nat.beq e e' && okT P e && ent a 4 .z q k && ent a 4 q (.l z) (-k - 1) with
   |false=> rw[hb] at hr;cases hr
   |true=>
    rw[hb] at hr
    simp only[cond_true] at hr
    rw[Bool.and_eq_true,Bool.and_eq_true,Bool.and_eq_true] at hb
    obtain⟨⟨⟨he,hok⟩,b1⟩,b2⟩:=hb
    have he:=Nat.eq_of_beq_eq_true he
    subst he
    have b1:=ZGI h b1
    have b2:=ZGI h b2
    rw[ZKL] at b1
    simp only[show(Q.l z).val ρ=((V.lenN (ρ z):Nat):Int) from rfl] at b2
    obtain⟨ik,iv,hiv,hin,hqb⟩:=ZMN h hli
    obtain⟨N,hN⟩:=Int.eq_ofNat_of_zero_le (show 0≤q.val ρ+k by omega)
    rw[hiv,hin,hN]
    obtain⟨ht,hzn⟩:=ZRk h hKD hk
    show∃w,indexAddr P t (ρ z) (.int ik (N:Int))=some w∧_
    have hNl:N < V.lenN (ρ z):=by omega
    generalize hv:ρ z=v at ht hNl
    cases ht with
    |nils=> exact absurd hNl (Nat.not_lt_zero _)
    |ze=> exact absurd hNl (Nat.not_lt_zero _)
    |vs hsz hn hm hp htn=>
     rename_i cells len o
     have hNl:N < len:=hNl
     have key:indexAddr P t (.vs cells len (ZmI P e) o) (.int ik (N:Int))=some (.iptr (cells.drop (N * ZmI P e))):=by
      unfold indexAddr
      simp only[asI]
      rw[hu]
      simp only
      rw[if_pos ⟨by omega,by omega,hok⟩]
      simp
     refine⟨_,key,?_⟩
     split at hr
     ·rename_i b n' hel
      obtain⟨-,cs,len',sz',o',N',e1,e2,e3,e4⟩:=h.fs _ (ZSy hel)
      rw[hv] at e1
      cases e1
      have:N'=N:=by omega
      subst this
      refine ZKv h hr ?_
      show _=V.iptr (A.dens ρ m (ZLX (b+1) n')++(ρ b).cells)
      rw[ZPZ,e4]
     ·obtain⟨c,d,e1,e2,e3⟩:=htn.elem hNl
      have hpc:V.pures (c++d)=true:=by rw[←e1];exact ZX5 _ _ hp
      rw[ZLC,Bool.and_eq_true] at hpc
      have hf:Rel P KD (at1 ρ a.nx (.agg d)) m (a.fresh none) f nb g:=h.fresh fun _ hh=> by cases hh
      obtain⟨ρ',r1,r2,r3,r4,r5,r6,r7⟩:=ZP9 (p:=some z) hf e2 hpc.1 fun y hy=> by
       cases hy
       refine⟨Nat.lt_succ_of_lt hzn,fun v hv'=> ?_⟩
       rw[QF _ _ (by omega),hv]
       have:=ZRG hv'
       show _ < V.rks cells+1
       omega
      have r4':(ZKu (KD e rf) (some z) (a.fresh none)).2.nx=a.nx+1+(KD e rf).length:=r4
      have rz:∀y,y < a.nx→ρ' y=ρ y:=fun y hy=> (r1 y (Nat.lt_succ_of_lt hy)).trans (QF _ _ (by omega))
      have rn:ρ' a.nx=.agg d:=(r1 a.nx (Nat.lt_succ_self _)).trans (zag _ _ _)
      have hlen:(ZKu (KD e rf) (some z) (a.fresh none)).1.length=(KD e rf).length:=by
       rw[r6]
       have:∀(k b:Nat),(ZLX b k).length=k:=by
        intro k
        induction k with
        |zero=> intro b;rfl
        |succ k ih=> intro b;show(ZLX (b+1) k).length+1=_;rw[ih]
       exact this _ _
      have hels:cells.drop (N * ZmI P e)=vals ρ' (a.nx+1) (KD e rf).length++(ρ' a.nx).cells:=by
       rw[rn]
       show _=_++d
       rw[←hsz,e1,←r3,r6,ZPZ];rfl
      have hrel:=r2.knowB (F:=.el z q k a.nx (ZKu (KD e rf) (some z) (a.fresh none)).1.length) (by
       rw[hlen]
       refine⟨cells,len,ZmI P e,o,N,by rw[rz z hzn];exact hv,?_,hNl,hels⟩
       rw[Q.val_congr hqb rz];omega)
      have hsm:SameS (ZKu (KD e rf) (some z) (a.fresh none)).2 ((ZKu (KD e rf) (some z) (a.fresh none)).2.knowB (.el z q k a.nx (ZKu (KD e rf) (some z) (a.fresh none)).1.length)):=.knowB
      cases hr
      refine⟨_,List.mem_cons_self ..,ρ',m,nb,g,⟨rz,fun _ _=> rfl⟩,?_,.same (hsm.blks.trans r5),Nat.le_refl _,?_,hrel,fun d=> ⟨d,rfl⟩,rfl,rfl,rfl,rfl⟩
      ·show a.nx≤_
       rw[hsm.nx,r4'];omega
      ·show _=V.iptr (A.dens ρ' m _++(ρ' a.nx).cells)
       rw[r3,rn,←hsz,e1];rfl
  ·cases hr
 ·rename_i l n z q k hli
  split at hr
  ·rename_i e N hu hN
   cases hb:okT P e && Nat.beq z (ZmI P e) && l.all ZQq with
   |false=> rw[hb] at hr;cases hr
   |true=>
    rw[hb] at hr
    simp only[cond_true] at hr
    rw[Bool.and_eq_true,Bool.and_eq_true] at hb
    obtain⟨⟨hok,hz⟩,hKI⟩:=hb
    obtain rfl:=Nat.eq_of_beq_eq_true hz
    obtain⟨hlt,hq⟩:=ZXh h hN
    obtain⟨ik,iv,hiv,hin,hqb⟩:=ZMN h hli
    rw[hiv,hin,hq]
    have key:indexAddr P t (.vs (V.seals (A.dens ρ m l)) n (ZmI P e) .tight) (.int ik (N:Int))=some (.iptr ((V.seals (A.dens ρ m l)).drop (N * ZmI P e))):=by
     unfold indexAddr
     simp only[asI]
     rw[hu]
     simp only
     rw[if_pos ⟨by omega,by omega,hok⟩]
     simp
    refine⟨_,key,?_⟩
    have hf:Rel P KD (at1 ρ a.nx (.agg [])) m (a.fresh none) f nb g:=h.fresh fun _ hh=> by cases hh
    cases hr
    refine⟨_,List.mem_cons_self ..,at1 ρ a.nx (.agg []),m,nb,g,⟨fun y hy=> QF _ _ (by omega),fun _ _=> rfl⟩,Nat.le_succ _,.same rfl,Nat.le_refl _,?_,hf,fun d=> ⟨d,rfl⟩,rfl,rfl,rfl,rfl⟩
    show V.iptr _=V.iptr (A.dens (at1 ρ a.nx (.agg [])) m (l.drop (N * ZmI P e))++(at1 ρ a.nx (.agg []) a.nx).cells)
    rw[zag,ZYo hKI,ZMF]
    have hc:∀{l:List A},l.all ZQq=true→A.dens (at1 ρ a.nx (.agg [])) m l=A.dens ρ m l:=by
     intro l
     induction l with
     |nil=> intro _;rfl
     |cons x l ih=>
      intro hh
      rw[List.all_cons,Bool.and_eq_true] at hh
      show A.den _ m x::A.dens _ m l=A.den _ m x::A.dens _ m l
      rw[ih hh.2]
      cases x with
      |k v=> rfl
      |_=> have h1:=hh.1;cases h1
    rw[hc hKI]
    show _=V.iptr (_++[])
    rw[List.append_nil]
  ·cases hr
 ·cases hr
theorem Z0r (h:Rel P KD ρ m a f nb g) {t:TypeId} {x i:A} {rs:List (A×SS×AF)} (hr:ZSW P a t x i=some rs):
 ∃e,ZG7 P (und P t) (x.den ρ m) (i.den ρ m)=some e∧∃r∈rs,ZGK P KD ρ m a f nb g e r:=by
 unfold ZSW at hr
 split at hr
 ·rename_i z
  split at hr
  ·rename_i q k hli
   split at hr
   ·rename_i kz hu hk
    cases hb:isStr kz && ent a 4 .z q k && ent a 4 q (.l z) (-k - 1) with
    |false=> rw[hb] at hr;cases hr
    |true=>
     rw[hb] at hr
     rw[Bool.and_eq_true,Bool.and_eq_true] at hb
     obtain⟨⟨b0,b1⟩,b2⟩:=hb
     have b1:=ZGI h b1
     have b2:=ZGI h b2
     rw[ZKL] at b1
     simp only[show(Q.l z).val ρ=((V.lenN (ρ z):Nat):Int) from rfl] at b2
     obtain⟨ik,iv,hiv,hin,hqb⟩:=ZMN h hli
     obtain⟨N,hN⟩:=Int.eq_ofNat_of_zero_le (show 0≤q.val ρ+k by omega)
     rw[hiv,hin,hN]
     obtain⟨ht, -⟩:=ZGN h hk
     obtain⟨s,hs⟩:=ht.isStr b0
     have hlen:N < s.data.toList.length:=by
      have:N < V.lenN (ρ z):=by omega
      rw[hs] at this
      exact this
     show∃e,ZG7 P (und P t) (ρ z) (.int ik (N:Int))=some e∧_
     rw[hs,hu]
     refine⟨{v:=.int .u8 (s.data.toList[N]).toNat},?_,ZNV h hr (.int ?_) rfl⟩
     ·unfold ZG7
      simp only
      rw[if_pos (by omega)]
      simp only[Int.toNat_natCast]
      rw[List.getElem?_eq_getElem hlen];rfl
     ·have h8:(s.data.toList[N]).toNat < 256:=(s.data.toList[N]).toNat_lt
      generalize (s.data.toList[N]).toNat=q at h8
      simp only[Lit.wf,Bool.and_eq_true,decide_eq_true_eq,IntKind.min,IntKind.max,IntKind.signed,IntKind.bits]
      simp
      omega
   ·cases hr
  ·cases hr
 ·rename_i l
  split at hr
  ·rename_i ik j len e hu
   cases hb:leI 0 j && leI (j+1) len && okT P e with
   |false=> rw[hb] at hr;cases hr
   |true=>
    rw[hb] at hr
    simp only[cond_true] at hr
    rw[Bool.and_eq_true,Bool.and_eq_true] at hb
    obtain⟨⟨b1,b2⟩,b3⟩:=hb
    have b1:=ZLt b1
    have b2:=ZLt b2
    split at hr
    ·rename_i y hy
     refine⟨{v:=y.den ρ m},?_,ZKv h hr rfl⟩
     rw[hu]
     show(if 0≤j∧j < len∧okT P e=true then val (ZCC P e ((A.dens ρ m l).drop (j.toNat * ZmI P e))) else none)=_
     rw[if_pos ⟨b1,by omega,b3⟩]
     have:=ZPs (ρ:=ρ) (m:=m) hy []
     rw[List.append_nil,ZMF] at this
     rw[this];rfl
    ·cases hr
  ·cases hr
 ·cases hr
theorem ZZ2 (h:Rel P KD ρ m a f nb g) {x:A} {i:Nat} {rs:List (A×SS×AF)} (hr:ZSv a x i=some rs):∃e,ZC6 (x.den ρ m) i=some e∧∃r∈rs,ZGK P KD ρ m a f nb g e r:=by
 unfold ZSv at hr
 split at hr
 ·rename_i l
  split at hr
  ·rename_i y hy
   refine⟨{v:=y.den ρ m},?_,ZKv h hr rfl⟩
   show val ((A.dens ρ m l)[i]?)=_
   rw[ZLp,hy];rfl
  ·cases hr
 ·cases hr
theorem Z1t (h:Rel P KD ρ m a f nb g) {get:Nat→Blk} {t:TypeId} {x:A} {rs:List (A×SS×AF)} (hr:ZTf P a t x=some rs):∃e,ZDQ P get t (x.den ρ m)=some e∧∃r∈rs,ZGK P KD ρ m a f nb g e r:=by
 unfold ZTf at hr
 split at hr
 ·rename_i s hu
  refine⟨_,?_,ZKv h hr rfl⟩
  unfold ZDQ;rw[hu];rfl
 ·rename_i z hu
  split at hr
  ·rename_i k hk
   cases hb:isStr k with
   |false=> rw[hb] at hr;cases hr
   |true=>
    rw[hb] at hr
    obtain⟨s,hs⟩:=(ZGN h hk).1.isStr hb
    refine⟨{v:=.int .i64 s.size},?_,ZKv h hr ?_⟩
    ·show ZDQ P get t (ρ z)=_
     unfold ZDQ;rw[hu,hs]
    ·show _=V.int .i64 (V.lenN (ρ z));rw[hs];rfl
  ·cases hr
 ·rename_i e hu
  refine⟨_,?_,ZKv h hr rfl⟩
  unfold ZDQ;rw[hu];rfl
 ·rename_i e l n z hu
  refine⟨{v:=.int .i64 n},?_,ZKv h hr rfl⟩
  unfold ZDQ;rw[hu];rfl
 ·rename_i e z hu
  split at hr
  ·rename_i e' rf n hk
   have ht:=(ZGN h hk).1
   refine⟨{v:=.int .i64 (V.lenN (ρ z))},?_,ZKv h hr rfl⟩
   show ZDQ P get t (ρ z)=_
   unfold ZDQ
   rw[hu]
   cases hz:ρ z <;> rw[hz] at ht <;> first|(cases ht;done)|rfl
  ·cases hr
 ·cases hr
theorem ZXm (h:Rel P KD ρ m a f nb g) {mx:Bool} {x y:A} {rs:List (A×SS×AF)} (hr:ZRp mx a x y=some rs):∃w,ZDG mx (x.den ρ m) [y.den ρ m]=some w∧∃r∈rs,ZGK P KD ρ m a f nb g {v:=w} r:=by
 unfold ZRp at hr
 split at hr
 ·rename_i kx ky hkx hky
  split at hr
  ·rename_i i j hi hj
   split at hr
   ·rename_i hij
    subst hij
    obtain⟨p,hp,hpw⟩:=(ZMt h hkx).ik hi
    obtain⟨q,hq,hqw⟩:=(ZMt h hky).ik hj
    split at hr
    ·rename_i p' k q' l h1 h2
     obtain⟨rfl,hb1⟩:=ZLN h h1 hp
     obtain⟨rfl,hb2⟩:=ZLN h h2 hq
     rw[hp,hq]
     refine⟨_,rfl,zXW h hr (.int ?_) rfl fun F hF=> ?_⟩
     ·split <;> split <;> assumption
     ·unfold ZXn at hF
      cases mx with
      |true=>
       simp only[cond_true] at hF
       rcases List.mem_cons.1 hF with rfl|hF
       ·show p'.val _ - (Q.v a.nx).val _≤_
        rw[ZN4,ZK9 hb1]
        simp only[V.intN,if_true]
        split <;> omega
       ·obtain rfl:=List.mem_singleton.1 hF
        show q'.val _ - (Q.v a.nx).val _≤_
        rw[ZN4,ZK9 hb2]
        simp only[V.intN,if_true]
        split <;> omega
      |false=>
       simp only[cond_false] at hF
       rcases List.mem_cons.1 hF with rfl|hF
       ·show(Q.v a.nx).val _ - p'.val _≤_
        rw[ZN4,ZK9 hb1]
        simp only[V.intN,Bool.false_eq_true,if_false]
        split <;> omega
       ·obtain rfl:=List.mem_singleton.1 hF
        show(Q.v a.nx).val _ - q'.val _≤_
        rw[ZN4,ZK9 hb2]
        simp only[V.intN,Bool.false_eq_true,if_false]
        split <;> omega
    ·cases hr
   ·cases hr
  ·cases hr
 ·cases hr
end
end
section
section
variable (P:Program) (KD:TypeId→Bool→List K)
def ZOb (rec:SS→Nat→Bool→SS) (u:Nat) (c:Bool):List Fact→SS→SS
 |[],a=> a
 |.imp x b (.kb y d)::l,a=> ZOb rec u c l (cond (Nat.beq x u && (b==c)) (rec a y d) a)
 |.imp x b f::l,a=> ZOb rec u c l (cond (Nat.beq x u && (b==c)) (a.knowB f) a)
 |_::l,a=> ZOb rec u c l a
def assume:Nat→SS→Nat→Bool→SS
 |0,a,u,c=> a.knowB (.kb u c)
 |d+1,a,u,c=> ZOb (assume d) u c a.fs (a.knowB (.kb u c))
def truth (a:SS) (x:A):Option (List (Bool×SS)):=
 match x with
 |.k (.bool c)=> some [(c,a)]
 |.s u=> match ZNf a.fs u with
  |some c=> some [(c,a)]
  |none=> match ZFS a u with
   |some .bool=> some [(true,assume 3 a u true),(false,assume 3 a u false)]
   |_=> none
 |_=> none
def ZTz (a:SS) (c x y:A):Option (List (A×SS×AF)):=
 match truth a c with
 |some l=> some (l.map fun p=> (cond p.1 x y,p.2,.no))
 |none=> none
def ZM8 (a:SS):A→Option (List A)
 |.agg l=> some l
 |.k v=> some (v.cells.map .k)
 |.s x=> match ZFS a x with
  |some _=> some [.s x]
  |none=> none
 |.len x=> some [.len x]
 |.loc b o=> some [.loc b o]
 |.ip l x=> some [.ip l x]
 |.lit l n z=> some [.lit l n z]
 |.fn f l l'=> some [.fn f l l']
 |.tup _=> none
def ZTv (a:SS):A→Bool
 |.k v=> v.one
 |.s x=> (ZFS a x).isSome
 |.agg _|.tup _=> false
 |_=> true
def ZPu (a:SS):List A→Bool
 |[]=> true
 |x::l=> ZTv a x && ZPu a l
def ZRQ (cells new:List A) (off:Nat):Option (List A):=
 cond (Nat.ble (off+new.length) cells.length) (some (cells.take off++new++cells.drop (off+new.length))) none
def newRow (a:SS) (l:List A):Option (List (A×SS×AF)):=
 cond (A.bels a.nx a.blks.length l) (some [(.loc a.blks.length 0,a.newB (some l),.nw a.blks.length)]) none
def ZTl (a:SS) (t:TypeId) (x:A):Option (List (A×SS×AF)):=
 match x with
 |.loc b off=> match a.blks[b]? with
  |some (some l)=> cond (Nat.ble off l.length) (match ZNT P t (l.drop off) with
   |some y=> some [(y,a,.rd b)]
   |none=> none) none
  |_=> none
 |.ip l _=> match ZNT P t l with
  |some y=> one y a
  |none=> none
 |_=> none
def ZTT (a:SS) (t:TypeId) (p x:A):Option (List (A×SS×AF)):=
 match p,ZM8 a x with
 |.loc b off,some lx=> match a.blks[b]? with
  |some (some l)=> cond (Nat.beq lx.length (ZmI P t) && ZPu a lx) (match ZRQ l lx off with
   |some l'=> cond (A.bels a.nx a.blks.length l') (some [(.k ZmM,a.setB b l',.wr b)]) none
   |none=> none) none
  |_=> none
 |_,_=> none
def ZTq (a:SS) (x:A):Option (List (A×SS×AF)):=
 match x with
 |.loc b o=> one (.loc b o) a
 |.ip l z=> one (.ip l z) a
 |.fn f l l'=> one (.fn f l l') a
 |.k (.fn (.func f) l l')=> one (.k (.fn (.func f) l l')) a
 |_=> none
variable {P KD}
variable {ρ:Nat→V} {m:Nat→Nat} {a:SS} {f:Nat→V} {nb n:Nat} {g:Nat→Blk}
theorem ZPN {rec:SS→Nat→Bool→SS} {u:Nat} {c:Bool} (hc:ρ u=.bool c)
 (hrec:∀{a:SS} {y:Nat} {d:Bool},Rel P KD ρ m a f nb g→ρ y=.bool d→Rel P KD ρ m (rec a y d) f nb g∧SameS a (rec a y d)):
 ∀{l:List Fact} {a:SS},Rel P KD ρ m a f nb g→(∀F∈l,F.ok P KD ρ)→Rel P KD ρ m (ZOb rec u c l a) f nb g∧SameS a (ZOb rec u c l a)
 |[],a,h,_=> ⟨h,.refl⟩
 |F::l,a,h,hl=> by
  have hF:=hl F (List.mem_cons_self ..)
  have hl':∀G∈l,G.ok P KD ρ:=fun G hG=> hl G (List.mem_cons_of_mem _ hG)
  cases F with
  |imp x b G=>
   have fits:∀{y:Nat},(Nat.beq x u && (b==c))=true→ρ x=.bool b:=by
    intro _ hb
    rw[Bool.and_eq_true] at hb
    rw[Nat.eq_of_beq_eq_true hb.1,eq_of_beq hb.2];exact hc
   cases G with
   |kb y d=>
    have key:Rel P KD ρ m (cond (Nat.beq x u && (b==c)) (rec a y d) a) f nb g∧SameS a (cond (Nat.beq x u && (b==c)) (rec a y d) a):=by
     cases hb:Nat.beq x u && (b==c) with
     |false=> exact⟨h,.refl⟩
     |true=> exact hrec h (hF (fits (y:=y) hb))
    obtain⟨r1,r2⟩:=ZPN hc hrec (l:=l) key.1 hl'
    exact⟨r1,key.2.trans r2⟩
   |_=>
    rename_i G0
    all_goals (
     refine(fun key=> ?_:(∀G1:Fact,(ρ x=.bool b→G1.ok P KD ρ)→Rel P KD ρ m (cond (Nat.beq x u && (b==c)) (a.knowB G1) a) f nb g∧SameS a (cond (Nat.beq x u && (b==c)) (a.knowB G1) a))→_) ?_
     ·obtain⟨k1,k2⟩:=key _ hF
      obtain⟨r1,r2⟩:=ZPN hc hrec (l:=l) k1 hl'
      exact⟨r1,k2.trans r2⟩
     ·intro G1 hG1
      cases hb:Nat.beq x u && (b==c) with
      |false=> exact⟨h,.refl⟩
      |true=> exact⟨h.knowB (hG1 (fits (y:=0) hb)),.knowB⟩)
  |_=> exact ZPN hc hrec (l:=l) h hl'
theorem ZU5:∀{d:Nat} {a:SS} {u:Nat} {c:Bool},Rel P KD ρ m a f nb g→ρ u=.bool c→Rel P KD ρ m (assume d a u c) f nb g∧SameS a (assume d a u c)
 |0,a,u,c,h,hc=> ⟨h.knowB hc,.knowB⟩
 |d+1,a,u,c,h,hc=> by
  obtain⟨r1,r2⟩:=ZPN hc (fun h' hy=> ZU5 (d:=d) h' hy) (h.knowB (F:=.kb u c) hc) (fun F hF=> (h.fs F hF).2)
  exact⟨r1,SameS.knowB.trans r2⟩
theorem ZUO (h:Rel P KD ρ m a f nb g) {x:A} {l:List (Bool×SS)} (hl:truth a x=some l):∃p∈l,x.den ρ m=.bool p.1∧Rel P KD ρ m p.2 f nb g∧SameS a p.2:=by
 unfold truth at hl
 split at hl
 ·cases hl
  exact⟨_,List.mem_cons_self ..,rfl,h,.refl⟩
 ·rename_i u
  split at hl
  ·rename_i c hc
   cases hl
   exact⟨_,List.mem_cons_self ..,ZP6 (fun F hF=> (h.fs F hF).2) hc,h,.refl⟩
  ·split at hl
   ·rename_i hk
    cases hl
    obtain⟨ht,hu⟩:=ZGN h hk
    show∃p∈_,ρ u=_∧_
    cases hρ:ρ u <;> rw[hρ] at ht <;> first|(cases ht;done)|skip
    rename_i c
    obtain⟨r1,r2⟩:=ZU5 (d:=3) h hρ
    cases c with
    |true=> exact⟨_,List.mem_cons_self ..,rfl,r1,r2⟩
    |false=> exact⟨_,List.mem_cons_of_mem _ (List.mem_cons_self ..),rfl,r1,r2⟩
   ·cases hl
 ·cases hl
theorem Z10 (h:Rel P KD ρ m a f nb g) {c x y:A} {rs:List (A×SS×AF)} (hr:ZTz a c x y=some rs):∃e,ZCE (c.den ρ m) (x.den ρ m) (y.den ρ m)=some e∧∃r∈rs,ZGK P KD ρ m a f nb g e r:=by
 unfold ZTz at hr
 cases hl:truth a c with
 |none=> rw[hl] at hr;cases hr
 |some l=>
  rw[hl] at hr
  cases hr
  obtain⟨p,hp,e1,e2,e3⟩:=ZUO h hl
  rw[e1]
  refine⟨_,rfl,_,List.mem_map_of_mem hp,ρ,m,nb,g,.refl,by rw[e3.nx];exact Nat.le_refl _,.same e3.blks,Nat.le_refl _,?_,e2,fun d=> ⟨d,rfl⟩,rfl,rfl,rfl,rfl⟩
  obtain⟨b,a'⟩:=p
  cases b <;> rfl
theorem ZLS:∀l:List V,A.dens ρ m (l.map .k)=l
 |[]=> rfl
 |v::l=> by show v::A.dens ρ m (l.map .k)=_;rw[ZLS l]
theorem ZOW (h:Rel P KD ρ m a f nb g) {x:A} {l:List A} (hl:ZM8 a x=some l):(x.den ρ m).cells=A.dens ρ m l:=by
 cases x with
 |agg l'=> cases hl;rfl
 |k v=> cases hl;exact(ZLS _).symm
 |s x=>
  simp only[ZM8] at hl
  cases hk:ZFS a x with
  |none=> rw[hk] at hl;cases hl
  |some k=>
   rw[hk] at hl
   cases hl
   exact(ZGN h hk).1.one.2
 |tup l=> cases hl
 |_=> cases hl;rfl
theorem ZXS (h:Rel P KD ρ m a f nb g):∀{l:List A},ZPu a l=true→V.ones (A.dens ρ m l)=true
 |[],_=> rfl
 |x::l,hl=> by
  have hl:(ZTv a x && ZPu a l)=true:=hl
  rw[Bool.and_eq_true] at hl
  show(V.one (x.den ρ m) && V.ones (A.dens ρ m l))=true
  rw[Bool.and_eq_true]
  refine⟨?_,ZXS h hl.2⟩
  have h1:=hl.1
  cases x with
  |k v=> exact h1
  |s x=>
   simp only[ZTv] at h1
   cases hk:ZFS a x with
   |none=> rw[hk] at h1;cases h1
   |some k=> exact(ZGN h hk).1.one.1
  |agg l=> cases h1
  |tup l=> cases h1
  |_=> rfl
theorem ZYu {cells new l:List A} {off:Nat} (h:ZRQ cells new off=some l):splice (A.dens ρ m cells) (A.dens ρ m new) off=some (A.dens ρ m l):=by
 unfold ZRQ at h
 cases hb:Nat.ble (off+new.length) cells.length with
 |false=> rw[hb] at h;cases h
 |true=>
  rw[hb] at h
  cases h
  have:=Nat.le_of_ble_eq_true hb
  unfold splice
  rw[ZLb,ZLb,if_pos this,ZLa,ZLa,ZSo,ZMF]
theorem ZXz (h:Rel P KD ρ m a f nb g) {l:List A} {rs:List (A×SS×AF)} (hr:newRow a l=some rs):∃r∈rs,ZGK P KD ρ m a f nb g {v:=.ptr nb 0,nw:=[.row 0 (A.dens ρ m l)]} r:=by
 unfold newRow at hr
 cases hb:A.bels a.nx a.blks.length l with
 |false=> rw[hb] at hr;cases hr
 |true=>
  rw[hb] at hr
  cases hr
  have hm:at1 m a.blks.length nb a.blks.length=nb:=zag _ _ _
  have hlen:(a.newB (some l)).blks.length=a.blks.length+1:=by show(a.blks++[some l]).length=_;rw[List.length_append];rfl
  refine⟨_,List.mem_cons_self ..,ρ,at1 m a.blks.length nb,nb+1,_,⟨fun _ _=> rfl,fun c hc=> QF _ _ (by omega)⟩,Nat.le_refl _,?_,Nat.le_succ _,?_,h.newB (l:=some l) (b:=.row 0 (A.dens ρ m l)) (fun l' hl'=> by cases hl';exact⟨hb,rfl⟩),fun d=> ⟨d,?_⟩,rfl,rfl,rfl,⟨_,rfl⟩,hm,?_⟩
  ·refine⟨by show a.blks.length≤(a.newB (some l)).blks.length;rw[hlen];omega,fun b h1 h2=> ?_⟩
   have h2:b < (a.newB (some l)).blks.length:=h2
   rw[hlen] at h2
   obtain rfl:b=a.blks.length:=by omega
   rw[hm];exact Nat.le_refl _
  ·show V.ptr nb 0=V.ptr (at1 m a.blks.length nb a.blks.length) 0;rw[hm]
  ·show(mkH nb g d).new _=_;rw[Z8]
  ·show a.blks.length < (a.newB (some l)).blks.length;rw[hlen];omega
theorem Z1C (h:Rel P KD ρ m a f nb g) {get:Nat→Blk} (hg:∀r,r < nb→get r=g r) {t:TypeId} {x:A} {rs:List (A×SS×AF)} (hr:ZTl P a t x=some rs):∃e,Zi3 P t get (x.den ρ m)=some e∧∃r∈rs,ZGK P KD ρ m a f nb g e r:=by
 unfold ZTl at hr
 split at hr
 ·rename_i b off
  split at hr
  ·rename_i l hl
   cases hb:Nat.ble off l.length with
   |false=> rw[hb] at hr;cases hr
   |true=>
    rw[hb] at hr
    simp only[cond_true] at hr
    split at hr
    ·rename_i y hy
     cases hr
     have hbl:b < a.blks.length:=(List.getElem?_eq_some_iff.1 hl).1
     obtain⟨e1, -⟩:=h.blks b l hl
     refine⟨{v:=y.den ρ m,rd:=[m b]},?_,_,List.mem_cons_self ..,ρ,m,nb,g,.refl,Nat.le_refl _,.same rfl,Nat.le_refl _,rfl,h,fun d=> ⟨d,rfl⟩,rfl,rfl,rfl,rfl,hbl⟩
     show Zi3 P t get (.ptr (m b) off)=_
     unfold Zi3
     simp only
     rw[hg _ (h.lt b hbl),e1]
     simp only
     have:=ZPs (ρ:=ρ) (m:=m) hy []
     rw[List.append_nil,ZMF] at this
     rw[if_pos (by rw[ZLb];exact Nat.le_of_ble_eq_true hb),this]
    ·cases hr
  ·cases hr
 ·rename_i l z
  split at hr
  ·rename_i y hy
   refine⟨{v:=y.den ρ m},?_,ZKv h hr rfl⟩
   show val (ZCC P t (A.dens ρ m l++(ρ z).cells))=_
   rw[ZPs hy];rfl
  ·cases hr
 ·cases hr
theorem Z2A (h:Rel P KD ρ m a f nb g) {get:Nat→Blk} (hg:∀r,r < nb→get r=g r) {t:TypeId} {p x:A} {rs:List (A×SS×AF)} (hr:ZTT P a t p x=some rs):∃e,ZnB P t get (p.den ρ m) (x.den ρ m)=some e∧∃r∈rs,ZGK P KD ρ m a f nb g e r:=by
 unfold ZTT at hr
 split at hr
 ·rename_i b off lx hx
  split at hr
  ·rename_i l hl
   cases hb:Nat.beq lx.length (ZmI P t) && ZPu a lx with
   |false=> rw[hb] at hr;cases hr
   |true=>
    rw[hb] at hr
    rw[Bool.and_eq_true] at hb
    simp only[cond_true] at hr
    split at hr
    ·rename_i l' hl'
     cases hbe:A.bels a.nx a.blks.length l' with
     |false=> rw[hbe] at hr;cases hr
     |true=>
      rw[hbe] at hr
      cases hr
      have hbl:b < a.blks.length:=(List.getElem?_eq_some_iff.1 hl).1
      obtain⟨e1, -⟩:=h.blks b l hl
      have hlen:(a.setB b l').blks.length=a.blks.length:=List.length_set
      refine⟨{v:=ZmM,rd:=[m b],wr:=[(m b,.row 0 (A.dens ρ m l'))]},?_,_,List.mem_cons_self ..,ρ,m,nb,_,.refl,Nat.le_refl _,.len hlen,Nat.le_refl _,rfl,h.setB hbl ⟨_,_,e1⟩ hbe,fun d=> ⟨m b::d,?_⟩,rfl,rfl,⟨_,rfl⟩,rfl,by show b < (a.setB b l').blks.length;rw[hlen];exact hbl⟩
      ·show ZnB P t get (.ptr (m b) off) (x.den ρ m)=_
       unfold ZnB
       simp only
       rw[hg _ (h.lt b hbl),e1]
       simp only
       rw[ZOW h hx,if_pos ⟨Nat.zero_le _,by rw[ZLb];exact Nat.eq_of_beq_eq_true hb.1,ZXS h hb.2⟩,ZYu hl']
      ·show(mkH nb g d).set (m b) _=_;rw[Jp]
    ·cases hr
  ·cases hr
 ·cases hr
theorem Z1K (h:Rel P KD ρ m a f nb g) {x:A} {rs:List (A×SS×AF)} (hr:ZTq a x=some rs):∃e,ZCn P (x.den ρ m)=some e∧∃r∈rs,ZGK P KD ρ m a f nb g e r:=by
 unfold ZTq at hr
 split at hr
 ·exact⟨_,rfl,ZKv h hr rfl⟩
 ·exact⟨_,rfl,ZKv h hr rfl⟩
 ·exact⟨_,rfl,ZKv h hr rfl⟩
 ·exact⟨_,rfl,ZKv h hr rfl⟩
 ·cases hr
end
end
section
def ZKK:List Nat→Nat→Bool
 |[],_=> false
 |y::l,x=> Nat.beq x y||ZKK l x
theorem ZMQ:∀{l:List Nat} {x:Nat},ZKK l x=true→x∈l
 |[],_,h=> by cases h
 |y::l,x,h=> by
  have h:(Nat.beq x y||ZKK l x)=true:=h
  rw[Bool.or_eq_true] at h
  rcases h with h|h
  ·rw[Nat.eq_of_beq_eq_true h];exact List.mem_cons_self ..
  ·exact List.mem_cons_of_mem _ (ZMQ h)
def ZO0 (l:List Nat) (x:Nat):List Nat:=match l with
 |[]=> []
 |y::l=> cond (Nat.beq x y) (ZO0 l x) (y::ZO0 l x)
theorem ZO1:∀{l:List Nat} {x y:Nat},y∈ZO0 l x→y∈l∧y≠x
 |[],_,_,h=> by cases h
 |z::l,x,y,h=> by
  unfold ZO0 at h
  cases hb:Nat.beq x z with
  |true=>
   rw[hb] at h
   obtain⟨h1,h2⟩:=ZO1 (l:=l) h
   exact⟨List.mem_cons_of_mem _ h1,h2⟩
  |false=>
   rw[hb] at h
   rcases List.mem_cons.1 h with rfl|h
   ·exact⟨List.mem_cons_self ..,fun hh=> by subst hh;rw[Nat.beq_refl] at hb;cases hb⟩
   ·obtain⟨h1,h2⟩:=ZO1 (l:=l) h
    exact⟨List.mem_cons_of_mem _ h1,h2⟩
def ZN2:List K→List K→Bool
 |[],[]=> true
 |a::l,b::l'=> K.sub a b && ZN2 l l'
 |_,_=> false
section
variable (P:Program) (KD:TypeId→Bool→List K)
mutual
def ZNi (d:Nat) (a:SS) (x:A) (k:K):Bool:=
 match d with
 |0=> false
 |d+1=> (match ZLM a x with
  |some k'=> K.sub k' k
  |none=> false)||(match x,k with
  |.k .nils,.sl _ _ _=> true
  |.k (.int .i64 z),.idx=> leI 0 z && leI z 9223372036854775807
  |.s x,.idx=> (match ZFS a x with
   |some (.int .i64)=> ent a 4 .z (.v x) 0
   |_=> false)
  |.s x,.str n=> (match ZFS a x with
   |some (.str _)=> ent a 4 (.l x) .z n
   |_=> false)
  |.s x,.sl e r n=> (match ZNS a x with
   |some (.sl e' r' _)=> Nat.beq e e' && ((r==r')||(r' && ZN2 (KD e true) (KD e r))) && ent a 4 (.l x) .z n
   |_=> false)
  |.lit l n z,.sl e r mx=> Nat.beq z (ZmI P e) && Nat.beq (KD e r).length z && Nat.ble n 1000000 && Nat.ble n mx && ZOl d a (KD e r) n l
  |_,_=> false)
def ZMn (d:Nat) (a:SS) (l:List A) (ks:List K):Bool:=
 match d with
 |0=> false
 |d+1=> match l,ks with
  |[],[]=> true
  |x::l,k::ks=> ZNi d a x k && ZMn d a l ks
  |_,_=> false
def ZOl (d:Nat) (a:SS) (ks:List K) (n:Nat) (l:List A):Bool:=
 match d with
 |0=> false
 |d+1=> match n with
  |0=> (match l with
   |[]=> true
   |_=> false)
  |n+1=> ZMn d a (l.take ks.length) ks && ZOl d a ks n (l.drop ks.length)
end
def ZPv (n:Nat) (a:SS):List (Nat×Operand)→Option (List (Nat×List A))
 |[]=> some []
 |(i,x)::xs=> match rdA n a x with
  |some y=> match ZM8 a y,ZPv n a xs with
   |some l,some ls=> some ((i,l)::ls)
   |_,_=> none
  |none=> none
def ZOh (place:Nat→Option (Nat×Nat)) (cells:List A):List (Nat×List A)→Option (List A)
 |[]=> some cells
 |(i,c)::rest=> match place i with
  |none=> none
  |some (off,size)=> cond (Nat.beq c.length size) (match ZRQ cells c off with
   |some cs=> ZOh place cs rest
   |none=> none) none
def ZSf (a:SS) (t:TypeId) (parts:List (Nat×List A)):Option (List (A×SS×AF)):=
 match zeroOf P t with
 |none=> none
 |some z=> match und P t with
  |.struct fs=> cond (fs.toList.all fun f=> okT P f.type) (match ZOh (fun i=> fs.toList[i]?.map fun f=> (f.offset,ZmI P f.type)) (z.cells.map .k) parts with
   |some l=> one (.agg l) a
   |none=> none) none
  |.array _ e=> cond (okT P e) (match ZOh (fun i=> some (i * ZmI P e,ZmI P e)) (z.cells.map .k) parts with
   |some l=> one (.agg l) a
   |none=> none) none
  |_=> none
def ZTB (a:SS):A→Bool
 |.k v=> V.pure (V.shut v)
 |.s x=> (ZFS a x).isSome
 |.len _|.lit _ _ _=> true
 |_=> false
def ZPz (a:SS):List A→Bool
 |[]=> true
 |x::l=> ZTB a x && ZPz a l
def Z3h (e:TypeId) (len:Nat):Option (List V):=
 if len * ZmI P e=0 then some [] else (zeroOf P e).bind fun z=> if z.cells.length=ZmI P e then some (ZDw z.cells len) else none
def ZTk (a:SS) (t:TypeId) (len:Nat) (parts:List (Nat×List A)):Option (List (A×SS×AF)):=
 match und P t with
 |.slice e=> if len * ZmI P e≤2 ^ 24∧okT P e=true then
  match Z3h P e len with
  |none=> none
  |some zs=> match ZOh (fun i=> some (i * ZmI P e,ZmI P e)) (zs.map .k) parts with
   |some l=> cond (ZPz a l) (one (.lit l len (ZmI P e)) a) none
   |none=> none
  else none
 |_=> none
def ZPq (a:SS):A→Option (Q×Int)
 |.k .nils=> some (.z,0)
 |.lit _ n _=> some (.z,n)
 |.s x=> match ZFS a x with
  |some (.sl _ _ _)=> some (.l x,0)
  |_=> none
 |_=> none
def ZFL (a:SS) (p:Q) (i:Int) (q:Q) (j:Int):List Fact:=
 match p,q with
 |p,.z=> [.c (.l a.nx) p (i+j),.c p (.l a.nx) (-(i+j))]
 |.z,q=> [.c (.l a.nx) q (i+j),.c q (.l a.nx) (-(i+j))]
 |p,q=> [.c p (.l a.nx) (-i),.c q (.l a.nx) (-j)]
def slC:V→List V
 |.vs cs _ _ _=> cs
 |_=> []
def ZLG (sz:Nat):List V→Prop:=fun l=> ∃u v o,l=[u,v,.vs (slC u++slC v) (V.lenN u+V.lenN v) sz o]
def ZET (a:SS) (e:TypeId) (s x:A) (rf:Bool) (ap:List Nat):Option (List (A×SS×AF)):=
 match ZPq a s,ZPq a x with
 |some (p,i),some (q,j)=> cond (ent a 4 p .z (1073741824 - i) && ent a 4 q .z (1073741824 - j) && ent a 4 .z q (j - 1) && decide (ZD4 P e 2147483648) && Nat.beq (KD e rf).length (ZmI P e) && ZNi P KD 100 a x (.sl e rf 1073741824) && a.blks.all Option.isSome)
  (some [(.s a.nx,knows (pF a (ZLG (ZmI P e)) [s,x]++ZFL a p i q j) {(SS.fresh {a with ap:=ap} (some ⟨.sl e rf maxLen,false⟩)) with ap:=a.nx::ap},.ap)]) none
 |_,_=> none
def ZYe (a:SS) (x:A):Bool:=
 match x with
 |.s x=> (match ZNS a x with
  |some (.sl _ rf _)=> rf
  |_=> false)
 |_=> false
def ZR6 (a:SS) (t u:TypeId) (s x:A):Option (List (A×SS×AF)):=
 match und P t,und P u with
 |.slice _,.int _=> none
 |.slice e,_=> cond (okU P u && okZ P e) (match s with
  |.k .nils=> ZET P KD a e s x (ZYe a x) a.ap
  |.s y=> match ZFS a y with
   |some (.sl e' rf _)=> cond (Nat.beq e' e && ZKK a.ap y) (ZET P KD a e s x rf (ZO0 a.ap y)) none
   |_=> none
  |_=> none) none
 |_,_=> none
variable {P KD}
variable {ρ:Nat→V} {m:Nat→Nat} {a:SS} {f:Nat→V} {nb n:Nat} {g:Nat→Blk}
theorem TKs.sub:∀{l l':List K} {vs:List V},TKs P KD l vs→ZN2 l l'=true→TKs P KD l' vs
 |[],[],_,.nil,_=> .nil
 |a::l,b::l',_,.cons h ht,hs=> by
  have hs:(K.sub a b && ZN2 l l')=true:=hs
  rw[Bool.and_eq_true] at hs
  exact .cons (h.sub hs.1) (ht.sub hs.2)
 |[],_::_,_,_,hs=> by cases hs
 |_::_,[],_,_,hs=> by cases hs
theorem TKn.sub {l l':List K} (hs:ZN2 l l'=true):∀{n:Nat} {vs:List V},TKn P KD l n vs→TKn P KD l' n vs
 |0,_,.nil=> .nil
 |n+1,_,.cons h ht=> .cons (h.sub hs) (TKn.sub hs ht)
theorem ZYD:∀{l l':List K},ZN2 l l'=true→l.length=l'.length
 |[],[],_=> rfl
 |a::l,b::l',hs=> by
  have hs:(K.sub a b && ZN2 l l')=true:=hs
  rw[Bool.and_eq_true] at hs
  rw[List.length_cons,List.length_cons,ZYD hs.2]
 |[],_::_,hs=> by cases hs
 |_::_,[],hs=> by cases hs
theorem ZTM:∀(x y:List V),V.seals (x++y)=V.seals x++V.seals y
 |[],y=> rfl
 |v::x,y=> by show V.shut v::V.seals (x++y)=_;rw[ZTM x y];rfl
mutual
theorem ZSB (h:Rel P KD ρ m a f nb g) (hKD:∀e,(KD e true).length=(KD e false).length):∀{d:Nat} {x:A} {k:K},ZNi P KD d a x k=true→TK P KD k (x.den ρ m)
 |0,_,_,hf=> by unfold ZNi at hf;cases hf
 |d+1,x,k,hf=> by
  unfold ZNi at hf
  rw[Bool.or_eq_true] at hf
  rcases hf with hf|hf
  ·split at hf
   ·rename_i k' hk
    exact(ZMt h hk).sub hf
   ·cases hf
  ·split at hf
   ·exact .nils
   ·rename_i z
    rw[Bool.and_eq_true] at hf
    have h1:=ZLt hf.1
    have h2:=ZLt hf.2
    obtain⟨N,rfl⟩:=Int.eq_ofNat_of_zero_le h1
    exact .idx (n:=N) (by omega)
   ·rename_i x
    split at hf
    ·rename_i hk
     have h1:=ZGI h hf
     obtain⟨n,hn, -,h2⟩:=(ZGN h hk).1.int_val
     have h3:IntKind.i64.max=9223372036854775807:=by decide
     show TK P KD .idx (ρ x)
     simp only[Q.val,hn,V.intN] at h1
     obtain⟨N,rfl⟩:=Int.eq_ofNat_of_zero_le (show 0≤n by omega)
     rw[hn]
     exact .idx (by omega)
    ·cases hf
   ·rename_i x n
    split at hf
    ·rename_i k' hk
     have h1:=ZGI h hf
     have ht:=(ZGN h hk).1
     show TK P KD (.str n) (ρ x)
     generalize hv:ρ x=v at ht
     cases ht with
     |str h2 h3=>
      simp only[Q.val,hv,V.lenN] at h1
      exact .str h2 (by omega)
    ·cases hf
   ·rename_i x e r n
    split at hf
    ·rename_i e' r' n' hk
     rw[Bool.and_eq_true,Bool.and_eq_true] at hf
     obtain⟨⟨h1,h2⟩,h3⟩:=hf
     have h1:=Nat.eq_of_beq_eq_true h1
     subst h1
     have h3:=ZGI h h3
     obtain⟨ht, -⟩:=ZRk h hKD hk
     show TK P KD (.sl e r n) (ρ x)
     generalize hv:ρ x=v at ht
     cases ht with
     |nils=> exact .nils
     |ze=> exact .ze
     |vs hz hn hm hp htn=>
      simp only[Q.val,hv,V.lenN] at h3
      rw[Bool.or_eq_true,Bool.and_eq_true] at h2
      rcases h2 with h2|⟨h4,h5⟩
      ·rw[←eq_of_beq h2] at hz htn
       exact .vs hz hn (by omega) hp htn
      ·rw[h4] at hz htn
       exact .vs ((ZYD h5).symm.trans hz) hn (by omega) hp (htn.sub h5)
    ·cases hf
   ·rename_i l n z e r mx
    rw[Bool.and_eq_true,Bool.and_eq_true,Bool.and_eq_true,Bool.and_eq_true] at hf
    obtain⟨⟨⟨⟨h1,h2⟩,h3⟩,h5⟩,h4⟩:=hf
    have h1:=Nat.eq_of_beq_eq_true h1
    have h2:=Nat.eq_of_beq_eq_true h2
    have h3:=Nat.le_of_ble_eq_true h3
    have h5:=Nat.le_of_ble_eq_true h5
    subst h1
    obtain⟨h6,h7⟩:=ZVG h hKD h4
    exact .vs h2 (Nat.le_trans h3 (by decide)) h5 h7 h6
   ·cases hf
theorem ZOk (h:Rel P KD ρ m a f nb g) (hKD:∀e,(KD e true).length=(KD e false).length):∀{d:Nat} {l:List A} {ks:List K},ZMn P KD d a l ks=true→TKs P KD ks (A.dens ρ m l)
 |0,_,_,hf=> by unfold ZMn at hf;cases hf
 |d+1,l,ks,hf=> by
  unfold ZMn at hf
  split at hf
  ·exact .nil
  ·rw[Bool.and_eq_true] at hf
   exact .cons (ZSB h hKD hf.1) (ZOk h hKD hf.2)
  ·cases hf
theorem ZVG (h:Rel P KD ρ m a f nb g) (hKD:∀e,(KD e true).length=(KD e false).length):∀{d:Nat} {ks:List K} {n:Nat} {l:List A},ZOl P KD d a ks n l=true→TKn P KD ks n (V.seals (A.dens ρ m l))∧V.pures (V.seals (A.dens ρ m l))=true
 |0,_,_,_,hf=> by unfold ZOl at hf;cases hf
 |d+1,ks,0,l,hf=> by
  unfold ZOl at hf
  simp only at hf
  split at hf
  ·exact⟨.nil,rfl⟩
  ·cases hf
 |d+1,ks,n+1,l,hf=> by
  unfold ZOl at hf
  simp only at hf
  rw[Bool.and_eq_true] at hf
  obtain⟨h1,p1⟩:=(ZOk h hKD hf.1).seals
  obtain⟨h2,p2⟩:=ZVG h hKD hf.2
  have:=TKn.cons h1 h2
  have hp:V.pures (V.seals (A.dens ρ m (l.take ks.length))++V.seals (A.dens ρ m (l.drop ks.length)))=true:=by
   rw[ZLC,p1,p2];rfl
  rw[←ZTM,←ZLa,List.take_append_drop] at this hp
  exact⟨this,hp⟩
end
theorem ZTy (h:Rel P KD ρ m a f nb g) (hn:n < 1048576):∀{ps:List (Nat×Operand)} {l:List (Nat×List A)},ZPv n a ps=some l→∃vs,ZEw (mkT 20 n f) ps=some vs∧vs.map (fun p=> (p.1,p.2.cells))=l.map fun p=> (p.1,A.dens ρ m p.2)
 |[],l,hl=> by cases hl;exact⟨[],rfl,rfl⟩
 |(i,x)::ps,l,hl=> by
  unfold ZPv at hl
  split at hl
  ·rename_i y hy
   split at hl
   ·rename_i c cs hc hcs
    cases hl
    obtain⟨vs,h1,h2⟩:=ZTy h hn hcs
    refine⟨(i,y.den ρ m)::vs,?_,?_⟩
    ·unfold ZEw
     rw[(ZKY h hn hy).1,h1]
    ·rw[List.map_cons,List.map_cons,h2,ZOW h hc]
   ·cases hl
  ·cases hl
theorem ZP5 {place:Nat→Option (Nat×Nat)}:∀{parts:List (Nat×List A)} {cells l:List A},ZOh place cells parts=some l→ZGf place (A.dens ρ m cells) (parts.map fun p=> (p.1,A.dens ρ m p.2))=some (A.dens ρ m l)
 |[],cells,l,h=> by cases h;rfl
 |(i,c)::rest,cells,l,h=> by
  unfold ZOh at h
  split at h
  ·cases h
  ·rename_i off size hp
   cases hb:Nat.beq c.length size with
   |false=> rw[hb] at h;cases h
   |true=>
    rw[hb] at h
    simp only[cond_true] at h
    split at h
    ·rename_i cs hcs
     have hsz:=Nat.eq_of_beq_eq_true hb
     rw[List.map_cons]
     unfold ZGf
     rw[hp]
     simp only
     rw[if_pos (by rw[ZLb];exact hsz),ZYu hcs]
     exact ZP5 h
    ·cases h
theorem ZZI (h:Rel P KD ρ m a f nb g) {t:TypeId} {parts:List (Nat×List A)} {vs:List (Nat×V)} (hv:vs.map (fun p=> (p.1,p.2.cells))=parts.map fun p=> (p.1,A.dens ρ m p.2)) {rs:List (A×SS×AF)} (hr:ZSf P a t parts=some rs):
 ∃w,build P t vs=some w∧∃r∈rs,ZGK P KD ρ m a f nb g {v:=w} r:=by
 rw[ZT,hv]
 unfold ZSf at hr
 unfold ZFN
 split at hr
 ·cases hr
 ·rename_i z hz
  rw[hz]
  simp only
  split at hr
  ·rename_i fs hu
   rw[hu]
   simp only
   cases hb:fs.toList.all fun f=> okT P f.type with
   |false=> rw[hb] at hr;cases hr
   |true=>
    rw[hb] at hr
    simp only[cond_true] at hr
    split at hr
    ·rename_i l hl
     have:=ZP5 (ρ:=ρ) (m:=m) hl
     rw[ZLS] at this
     rw[if_pos rfl,this]
     exact⟨_,rfl,ZKv h hr rfl⟩
    ·cases hr
  ·rename_i k e hu
   rw[hu]
   simp only
   cases hb:okT P e with
   |false=> rw[hb] at hr;cases hr
   |true=>
    rw[hb] at hr
    simp only[cond_true] at hr
    split at hr
    ·rename_i l hl
     have:=ZP5 (ρ:=ρ) (m:=m) hl
     rw[ZLS] at this
     rw[if_pos rfl,this]
     exact⟨_,rfl,ZKv h hr rfl⟩
    ·cases hr
  ·cases hr
theorem ZX4 (h:Rel P KD ρ m a f nb g):∀{l:List A},ZPz a l=true→V.pures (V.seals (A.dens ρ m l))=true
 |[],_=> rfl
 |x::l,hl=> by
  have hl:(ZTB a x && ZPz a l)=true:=hl
  rw[Bool.and_eq_true] at hl
  show(V.pure (V.shut (x.den ρ m)) && V.pures (V.seals (A.dens ρ m l)))=true
  rw[Bool.and_eq_true]
  refine⟨?_,ZX4 h hl.2⟩
  have h1:=hl.1
  cases x with
  |k v=> exact h1
  |s x=>
   simp only[ZTB] at h1
   cases hk:ZFS a x with
   |none=> rw[hk] at h1;cases h1
   |some k=> exact(ZGN h hk).1.shut.2
  |len x=> rfl
  |lit l n z=> rfl
  |_=> cases h1
theorem Z1B (h:Rel P KD ρ m a f nb g) {t:TypeId} {len nid:Nat} {parts:List (Nat×List A)} {vs:List (Nat×V)} (hv:vs.map (fun p=> (p.1,p.2.cells))=parts.map fun p=> (p.1,A.dens ρ m p.2)) {rs:List (A×SS×AF)} (hr:ZTk P a t len parts=some rs):
 ∃e,ZDl P false t len vs nid=some e∧∃r∈rs,ZGK P KD ρ m a f nb g e r:=by
 unfold ZTk at hr
 split at hr
 ·rename_i e hu
  split at hr
  ·rename_i hc
   split at hr
   ·cases hr
   ·rename_i zs hz
    split at hr
    ·rename_i l hl
     cases hb:ZPz a l with
     |false=> rw[hb] at hr;cases hr
     |true=>
      rw[hb] at hr
      have hf:=ZP5 (ρ:=ρ) (m:=m) hl
      rw[ZLS,←hv,←zDS] at hf
      refine⟨{v:=.vs (V.seals (A.dens ρ m l)) len (ZmI P e) .tight},?_,ZKv h hr rfl⟩
      have hz:(if len * ZmI P e=0 then some [] else (zeroOf P e).bind fun z=> if z.cells.length=ZmI P e then some (ZDw z.cells len) else none)=some zs:=hz
      have key:ZE1 P t len vs=some (A.dens ρ m l,ZmI P e):=by
       unfold ZE1
       rw[hu]
       simp only
       rw[if_pos hc,hz]
       simp only
       rw[hf];rfl
      unfold ZDl
      rw[key]
      show ZF8 false nid len (A.dens ρ m l) (ZmI P e)=_
      unfold ZF8
      rw[ZX4 h hb];rfl
    ·cases hr
  ·cases hr
 ·cases hr
theorem Rel.sub (h:Rel P KD ρ m a f nb g) {l:List Nat} (hl:∀x∈l,x∈a.ap):Rel P KD ρ m {a with ap:=l} f nb g where
 regs:=h.regs
 blks:=h.blks
 inj:=h.inj
 lt:=h.lt
 syms:=h.syms
 fs:=h.fs
 ap x hx:=h.ap x (hl x hx)
 apn x hx y hy:=h.apn x (hl x hx) y (hl y hy)
theorem Rel.tok (h:Rel P KD ρ m a f nb g) {r e0 e:Nat} (hr:g r=.tok e0) (hno:∀x∈a.ap,ZCj (ρ x)≠some r):Rel P KD ρ m a f nb (atB g r (.tok e)) where
 regs:=h.regs
 blks b l hl:=by
  obtain⟨h1,h2⟩:=h.blks b l hl
  rw[ZN _ _ (fun hh=> by rw[hh,hr] at h1;cases h1)]
  exact⟨h1,h2⟩
 inj:=h.inj
 lt:=h.lt
 syms:=h.syms
 fs:=h.fs
 ap x hx:=⟨(h.ap x hx).1,(h.ap x hx).2.set (hno x hx)⟩
 apn:=h.apn
theorem Rel.addAp (h:Rel P KD ρ m a f nb g) {x:Nat} (hx:x < a.nx) (ho:ZLg (ρ x) nb g) (hd:∀y∈a.ap,∀r,ZCj (ρ x)=some r→ZCj (ρ y)≠some r):Rel P KD ρ m {a with ap:=x::a.ap} f nb g where
 regs:=h.regs
 blks:=h.blks
 inj:=h.inj
 lt:=h.lt
 syms:=h.syms
 fs:=h.fs
 ap y hy:=by
  rcases List.mem_cons.1 hy with rfl|hy
  ·exact⟨hx,ho⟩
  ·exact h.ap y hy
 apn y hy z hz hne r hr:=by
  rcases List.mem_cons.1 hy with hy1|hy1
  ·rcases List.mem_cons.1 hz with hz1|hz1
   ·exact absurd (hy1.trans hz1.symm) hne
   ·rw[hy1] at hr;exact hd z hz1 r hr
  ·rcases List.mem_cons.1 hz with hz1|hz1
   ·rw[hz1];exact fun hh=> hd y hy1 r hh hr
   ·exact h.apn y hy1 z hz1 hne r hr
theorem Rel.app (h:Rel P KD ρ m a f nb g) {w:V} {i:SI} {l:List Nat} {nb':Nat} {g':Nat→Blk} (hw:ZCu P KD w i) (hl:∀x∈l,x∈a.ap)
 (hc:(∃cs n sz e,w=.vs cs n sz (.tok nb e)∧nb'=nb+1∧g'=atB g nb (.tok e))∨(∃cs n sz r e e0,w=.vs cs n sz (.tok r e)∧nb'=nb∧g'=atB g r (.tok e)∧r < nb∧g r=.tok e0∧∀x∈l,ZCj (ρ x)≠some r)):
 Rel P KD (at1 ρ a.nx w) m {(SS.fresh {a with ap:=l} (some i)) with ap:=a.nx::l} f nb' g':=by
 have h1:=h.sub hl
 have hold:∀x∈l,at1 ρ a.nx w x=ρ x:=fun x hx=> QF _ _ (by have:=(h.ap x (hl x hx)).1;omega)
 rcases hc with ⟨cs,n,sz,e,rfl,rfl,rfl⟩|⟨cs,n,sz,r,e,e0,rfl,rfl,rfl,hr,hg,hno⟩
 ·refine Rel.addAp (a:=SS.fresh {a with ap:=l} (some i)) ((h1.more (.tok e)).fresh fun j hj=> by cases hj;exact hw) (Nat.lt_succ_self _) ?_ ?_
  ·rw[show({a with ap:=l}:SS).nx=a.nx from rfl,zag]
   exact Or.inr (Or.inr ⟨cs,n,sz,nb,e,rfl,Nat.lt_succ_self _,ZO _ _ _⟩)
  ·intro y hy q hq
   have hy:y∈l:=hy
   rw[show({a with ap:=l}:SS).nx=a.nx from rfl,zag] at hq
   cases hq
   rw[show at1 ρ ({a with ap:=l}:SS).nx (.vs cs n sz (.tok nb e)) y=ρ y from hold y hy]
   exact(h.ap y (hl y hy)).2.lt
 ·refine Rel.addAp (a:=SS.fresh {a with ap:=l} (some i)) ((h1.tok (e:=e) hg hno).fresh fun j hj=> by cases hj;exact hw) (Nat.lt_succ_self _) ?_ ?_
  ·rw[show({a with ap:=l}:SS).nx=a.nx from rfl,zag]
   exact Or.inr (Or.inr ⟨cs,n,sz,r,e,rfl,hr,ZO _ _ _⟩)
  ·intro y hy q hq
   have hy:y∈l:=hy
   rw[show({a with ap:=l}:SS).nx=a.nx from rfl,zag] at hq
   cases hq
   rw[show at1 ρ ({a with ap:=l}:SS).nx (.vs cs n sz (.tok r e)) y=ρ y from hold y hy]
   exact hno y hy
theorem ZTi (h:Rel P KD ρ m a f nb g) {x:A} {q:Q} {k:Int} (hx:ZPq a x=some (q,k)):((V.lenN (x.den ρ m):Nat):Int)=q.val ρ+k∧q.bel a.nx=true:=by
 unfold ZPq at hx
 split at hx
 ·cases hx;exact⟨rfl,rfl⟩
 ·cases hx;exact⟨by rw[ZKL,Int.zero_add];rfl,rfl⟩
 ·rename_i x
  split at hx
  ·rename_i hk
   cases hx
   exact⟨by show((V.lenN (ρ x):Nat):Int)=((V.lenN (ρ x):Nat):Int)+0;omega,ZKy (ZGN h hk).2⟩
  ·cases hx
 ·cases hx
theorem ZYj {e:TypeId} {n k:Nat} (h:ZD4 P e k) (hn:n≤k):ZD4 P e n:=
 ⟨Nat.le_trans (Nat.mul_le_mul_right _ hn) h.1,Nat.le_trans hn h.2⟩
theorem ZU3 (h:Rel P KD ρ m a f nb g) (hKD:∀e,(KD e true).length=(KD e false).length) {get:Nat→Blk} (hg:∀r,r < nb→get r=g r) {e:TypeId} {s x:A} {rf:Bool} {ap:List Nat} {rs:List (A×SS×AF)}
 (hr:ZET P KD a e s x rf ap=some rs) (hz:okZ P e=true) (hap:∀y∈ap,y∈a.ap) (hso:ZLg (s.den ρ m) nb g) (hst:∃mx,TK P KD (.sl e rf mx) (s.den ρ m)) (hno:∀r,ZCj (s.den ρ m)=some r→∀y∈ap,ZCj (ρ y)≠some r):
 ∃cs k,ZC9 get (x.den ρ m)=some (cs,k,[])∧V.ones cs=true∧cs.length=k * ZmI P e∧k≠0∧∃E,ZCY P false get nb e (s.den ρ m) cs k []=some E∧∃r∈rs,ZGK P KD ρ m a f nb g E r:=by
 unfold ZET at hr
 split at hr
 ·rename_i p i q j hls hlx
  cases hb:ent a 4 p .z (1073741824 - i) && ent a 4 q .z (1073741824 - j) && ent a 4 .z q (j - 1) && decide (ZD4 P e 2147483648) && Nat.beq (KD e rf).length (ZmI P e) && ZNi P KD 100 a x (.sl e rf 1073741824) && a.blks.all Option.isSome with
  |false=> rw[hb] at hr;cases hr
  |true=>
   rw[hb] at hr
   rw[Bool.and_eq_true,Bool.and_eq_true,Bool.and_eq_true,Bool.and_eq_true,Bool.and_eq_true,Bool.and_eq_true,decide_eq_true_eq] at hb
   obtain⟨⟨⟨⟨⟨⟨b1,b2⟩,b3⟩,b4⟩,b5⟩,b6⟩,b7⟩:=hb
   have b1:=ZGI h b1
   have b2:=ZGI h b2
   have b3:=ZGI h b3
   rw[ZKL] at b1 b2 b3
   have b5:=Nat.eq_of_beq_eq_true b5
   have tx:=ZSB h hKD b6
   obtain⟨l1,q1⟩:=ZTi h hls
   obtain⟨l2,q2⟩:=ZTi h hlx
   obtain⟨mx,ts⟩:=hst
   generalize hvx:x.den ρ m=vx at tx l2
   cases tx with
   |nils=> simp only[V.lenN] at l2;omega
   |ze=> simp only[V.lenN] at l2;omega
   |vs hz' hn hm hp htn=>
    rename_i cs k o
    simp only[V.lenN] at l2
    have hlen:cs.length=k * ZmI P e:=by rw[htn.len,b5]
    have hseal:V.seals cs=cs:=htn.seals_pure hp
    refine⟨cs,k,rfl,htn.ones,hlen,by omega,?_⟩
    have facts:∀(w:V),V.lenN w=V.lenN (s.den ρ m)+k→∀F∈ZFL a p i q j,F.ok P KD (at1 ρ a.nx w):=by
     intro w hw F hF
     have on:((V.lenN (at1 ρ a.nx w a.nx):Nat):Int)=((V.lenN (s.den ρ m):Nat):Int)+k:=by rw[zag,hw];omega
     have vp:p.val (at1 ρ a.nx w)=p.val ρ:=ZK9 q1
     have vq:q.val (at1 ρ a.nx w)=q.val ρ:=ZK9 q2
     unfold ZFL at hF
     split at hF
     ·rw[ZKL] at l2
      rcases List.mem_cons.1 hF with rfl|hF
      ·show((V.lenN (at1 ρ a.nx w a.nx):Nat):Int) - p.val (at1 ρ a.nx w)≤_
       rw[on,vp];omega
      ·obtain rfl:=List.mem_singleton.1 hF
       show p.val (at1 ρ a.nx w) - ((V.lenN (at1 ρ a.nx w a.nx):Nat):Int)≤_
       rw[on,vp];omega
     ·rw[ZKL] at l1
      rcases List.mem_cons.1 hF with rfl|hF
      ·show((V.lenN (at1 ρ a.nx w a.nx):Nat):Int) - q.val (at1 ρ a.nx w)≤_
       rw[on,vq];omega
      ·obtain rfl:=List.mem_singleton.1 hF
       show q.val (at1 ρ a.nx w) - ((V.lenN (at1 ρ a.nx w a.nx):Nat):Int)≤_
       rw[on,vq];omega
     ·rcases List.mem_cons.1 hF with rfl|hF
      ·show p.val (at1 ρ a.nx w) - ((V.lenN (at1 ρ a.nx w a.nx):Nat):Int)≤_
       rw[on,vp];omega
      ·obtain rfl:=List.mem_singleton.1 hF
       show q.val (at1 ρ a.nx w) - ((V.lenN (at1 ρ a.nx w a.nx):Nat):Int)≤_
       rw[on,vq];omega
    have fin:∀(E:Eff) (w:V) (nb':Nat) (g':Nat→Blk),E.v=w→E.pan=false→nb≤nb'→(∀d,∃d',E.apply (mkH nb g d)=mkH nb' g' d')→(∃o,w=.vs (slC (s.den ρ m)++cs) (V.lenN (s.den ρ m)+k) (ZmI P e) o)→TK P KD (.sl e rf maxLen) w→
     ((∃cs n sz e,w=.vs cs n sz (.tok nb e)∧nb'=nb+1∧g'=atB g nb (.tok e))∨(∃cs n sz r e e0,w=.vs cs n sz (.tok r e)∧nb'=nb∧g'=atB g r (.tok e)∧r < nb∧g r=.tok e0∧∀x∈ap,ZCj (ρ x)≠some r))→ZN5 m nb g E a.blks.length .ap→
     ∃r∈rs,ZGK P KD ρ m a f nb g E r:=by
     intro E w nb' g' e1 e2 e3 e4 e8 e6 e7 e9
     have e5:V.lenN w=V.lenN (s.den ρ m)+k:=by obtain⟨o,rfl⟩:=e8;rfl
     have hrel:=h.app (i:=⟨.sl e rf maxLen,false⟩) ⟨e6,fun hh=> by cases hh⟩ hap e7
     have hrel2:=hrel.knows (l:=pF a (ZLG (ZmI P e)) [s,x]++ZFL a p i q j) fun F hF=> (List.mem_append.1 hF).elim (ZNW (m:=m) (by
      obtain⟨o,rfl⟩:=e8
      show ZLG _ [s.den ρ m,x.den ρ m,_]
      rw[hvx]
      exact⟨_,_,o,rfl⟩) F) (facts w e5 F)
     have hs:SameS {(SS.fresh {a with ap:=ap} (some ⟨.sl e rf maxLen,false⟩)) with ap:=a.nx::ap} (knows (pF a (ZLG (ZmI P e)) [s,x]++ZFL a p i q j) {(SS.fresh {a with ap:=ap} (some ⟨.sl e rf maxLen,false⟩)) with ap:=a.nx::ap}):=.knows
     cases hr
     refine⟨_,List.mem_cons_self ..,at1 ρ a.nx w,m,nb',g',⟨fun y hy=> QF _ _ (by omega),fun _ _=> rfl⟩,?_,.same hs.blks,e3,?_,hrel2,e4,e2,by rw[hs.blks];exact e9⟩
     ·show a.nx≤(knows _ _).nx
      rw[hs.nx];exact Nat.le_succ _
     ·rw[e1];exact(zag _ _ _).symm
    have hroom:∀n,n≤2147483648→ZD4 P e n:=fun n hn=> ZYj b4 hn
    have hz0:¬okZ P e=false:=by rw[hz];simp
    generalize hvs:s.den ρ m=vs at ts hso l1 hno fin
    rcases hso with rfl|⟨ds,len,sz,rfl⟩|⟨ds,len,sz,r,e',rfl,hr1,hr2⟩
    ·refine⟨{v:=.vs ([]++cs) (0+k) (ZmI P e) (.tok nb (0+k)),nw:=[.tok (0+k)]},?_,fin _ _ (nb+1) _ rfl rfl (Nat.le_succ _) (fun d=> ⟨d,?_⟩) ⟨_,rfl⟩ ?_ (Or.inl ⟨_,_,_,_,rfl,rfl,rfl⟩) (Or.inl ⟨rfl,rfl,_,rfl⟩)⟩
     ·unfold ZCY
      simp only
      rw[if_neg hz0,hseal,hp,if_pos (hroom _ (by omega))]
      rfl
     ·show(mkH nb g d).new _=_
      rw[Z8]
     ·rw[List.nil_append,Nat.zero_add]
      exact .vs b5 (by unfold maxLen;omega) (by unfold maxLen;omega) hp htn
    ·cases ts with
     |vs sz' sn sm sp stn=>
      simp only[V.lenN] at l1
      have hkk:len+k≤2147483648:=by omega
      refine⟨{v:=.vs (ds++cs) (len+k) (ZmI P e) (.tok nb (len+k)),nw:=[.tok (len+k)]},?_,fin _ _ (nb+1) _ rfl rfl (Nat.le_succ _) (fun d=> ⟨d,?_⟩) ⟨_,rfl⟩ ?_ (Or.inl ⟨_,_,_,_,rfl,rfl,rfl⟩) (Or.inl ⟨rfl,rfl,_,rfl⟩)⟩
      ·unfold ZCY
       simp only
       rw[if_neg hz0,hseal,hp,if_pos ⟨trivial,hroom _ hkk⟩]
       rfl
      ·show(mkH nb g d).new _=_
       rw[Z8]
      ·exact .vs b5 (by unfold maxLen;omega) (by unfold maxLen;omega) (by rw[ZLC,sp,hp];rfl) (stn.append htn)
    ·cases ts with
     |vs sz' sn sm sp stn=>
      simp only[V.lenN] at l1
      have hkk:len+k≤2147483648:=by omega
      refine⟨{v:=.vs (ds++cs) (len+k) (ZmI P e) (.tok r (e'+k)),rd:=[r],wr:=[(r,.tok (e'+k))]},?_,fin _ _ nb (atB g r (.tok (e'+k))) rfl rfl (Nat.le_refl _) (fun d=> ⟨r::d,?_⟩) ⟨_,rfl⟩ ?_ (Or.inr ⟨_,_,_,r,e'+k,e',rfl,rfl,rfl,hr1,hr2,fun y hy=> hno r rfl y hy⟩) (Or.inr ⟨r,_,rfl,rfl,rfl,hr1,⟨_,hr2⟩,fun b hb hh=> ?_⟩)⟩
      rotate_right
      ·have hbk:=List.all_eq_true.1 b7 _ (List.getElem_mem hb)
       obtain⟨l,hl⟩:=Option.isSome_iff_exists.1 hbk
       have:=(h.blks b l (by rw[List.getElem?_eq_getElem hb,hl])).1
       rw[hh,hr2] at this
       cases this
      ·unfold ZCY
       simp only
       rw[if_neg hz0,hseal,hp,if_pos ⟨trivial,hroom _ hkk⟩,hg r hr1,hr2]
       simp
      ·show(mkH nb g d).set r _=_
       rw[Jp]
      ·exact .vs b5 (by unfold maxLen;omega) (by unfold maxLen;omega) (by rw[ZLC,sp,hp];rfl) (stn.append htn)
 ·cases hr
theorem ZZx (h:Rel P KD ρ m a f nb g) (hKD:∀e,(KD e true).length=(KD e false).length) {get:Nat→Blk} (hg:∀r,r < nb→get r=g r) {t u:TypeId} {s x:A} {rs:List (A×SS×AF)} (hr:ZR6 P KD a t u s x=some rs):
 ∃E,ZmL P false get nb .append [t,u] [s.den ρ m,x.den ρ m]=some E∧∃r∈rs,ZGK P KD ρ m a f nb g E r:=by
 unfold ZR6 at hr
 split at hr
 ·cases hr
 ·rename_i e hu hne
  cases hb:okU P u && okZ P e with
  |false=> rw[hb] at hr;cases hr
  |true=>
   rw[hb] at hr
   rw[Bool.and_eq_true] at hb
   simp only[cond_true] at hr
   have fin:(∃cs k,ZC9 get (x.den ρ m)=some (cs,k,[])∧V.ones cs=true∧cs.length=k * ZmI P e∧k≠0∧∃E,ZCY P false get nb e (s.den ρ m) cs k []=some E∧∃r∈rs,ZGK P KD ρ m a f nb g E r)→
    ∃E,ZmL P false get nb .append [t,u] [s.den ρ m,x.den ρ m]=some E∧∃r∈rs,ZGK P KD ρ m a f nb g E r:=by
    rintro⟨cs,k,h1,h2,h3,h4,E,h5,h6⟩
    refine⟨E,?_,h6⟩
    unfold ZmL
    simp only
    rw[hu]
    have tail:(if okU P u=false∨okZ P e=false then none else match ZC9 get (x.den ρ m) with
     |some (cs,n,rs)=> if V.ones cs=false∨cs.length≠n * ZmI P e then none else if n=0 then (match s.den ρ m with|.nils|.vs _ _ _ _|.hs _ _ _ _ _ _=> some {v:=s.den ρ m,rd:=rs}|_=> none) else ZCY P false get nb e (s.den ρ m) cs n rs
     |none=> none)=some E:=by
     rw[if_neg (by rw[hb.1,hb.2];simp),h1]
     simp only
     rw[if_neg (by rw[h2];simp[h3]),if_neg h4]
     exact h5
    cases hw:und P u <;> first|exact absurd hw (hne _ _)|exact tail|exact absurd hw (hne _)
   split at hr
   ·exact fin (ZU3 h hKD hg hr hb.2 (fun _ hy=> hy) (Or.inl rfl) ⟨0,.nils⟩ fun r hh=> by cases hh)
   ·rename_i y
    split at hr
    ·rename_i e' rf mx hk
     cases hc:Nat.beq e' e && ZKK a.ap y with
     |false=> rw[hc] at hr;cases hr
     |true=>
      rw[hc] at hr
      rw[Bool.and_eq_true] at hc
      have he:=Nat.eq_of_beq_eq_true hc.1
      subst he
      have hy:=ZMQ hc.2
      exact fin (ZU3 h hKD hg hr hb.2 (fun z hz=> (ZO1 hz).1) (h.ap y hy).2 ⟨mx,(ZGN h hk).1⟩ fun r hr z hz=> h.apn y hy z (ZO1 hz).1 (Ne.symm (ZO1 hz).2) r hr)
    ·cases hr
   ·cases hr
 ·cases hr
end
end
section
section
variable (P:Program) (KD:TypeId→Bool→List K)
def ZPA (n:Nat) (a:SS):Option Operand→Option (Option A)
 |none=> some none
 |some x=> match rdA n a x with
  |some y=> some (some y)
  |none=> none
def ZMe (n:Nat) (a:SS):List Operand→Option (List A)
 |[]=> some []
 |x::xs=> match rdA n a x,ZMe n a xs with
  |some y,some ys=> some (y::ys)
  |_,_=> none
def fnA (f:Nat) (l l':List A):A:=
 match l,l' with
 |[],[]=> .k (.fn (.func f) [] [])
 |l,l'=> .fn f l l'
def on1 (n:Nat) (a:SS) (x:Operand) (k:A→Option (List (A×SS×AF))):Option (List (A×SS×AF)):=
 match rdA n a x with
 |some y=> k y
 |none=> none
def on2 (n:Nat) (a:SS) (x x':Operand) (k:A→A→Option (List (A×SS×AF))):Option (List (A×SS×AF)):=
 match rdA n a x,rdA n a x' with
 |some y,some y'=> k y y'
 |_,_=> none
def isConst:Operand→Bool
 |.const _=> true
 |_=> false
def opA (hm:Bool) (n:Nat) (a:SS) (op:Op):Option (List (A×SS×AF)):=
 match op with
 |.move x|.assign x=> on1 n a x fun y=> one y a
 |.pick c x y=> match rdA n a c with
  |some c=> on2 n a x y fun x y=> ZTz a c x y
  |none=> none
 |.alloc t=> match zeroOf P t with
  |some z=> newRow a (z.cells.map .k)
  |none=> none
 |.box _ x=> on1 n a x fun y=> match ZM8 a y with
  |some l=> newRow a l
  |none=> none
 |.build t ps=> match ZPv n a ps.toList with
  |some l=> ZSf P a t l
  |none=> none
 |.buildSlice t len ps=> cond hm none (match ZPv n a ps.toList with
  |some l=> ZTk P a t len l
  |none=> none)
 |.load t x=> on1 n a x fun y=> ZTl P a t y
 |.store t p x=> cond (okT P t) (on2 n a p x fun p x=> ZTT P a t p x) none
 |.nilCheck x=> on1 n a x fun y=> ZTq a y
 |.binOp op t x y _=> on2 n a x y fun u v=> ZSd P a op t (isConst x) (isConst y) u v
 |.unOp op _ x=> on1 n a x fun y=> unA a op y
 |.convert src dst x=> cond (okU P src) (on1 n a x fun y=> ZSl a (und P dst) y) none
 |.slice t x lo hi mx=> match rdA n a x,ZPA n a lo,ZPA n a hi,ZPA n a mx with
  |some x,some lo,some hi,some mx=> ZTQ P a t x lo hi mx
  |_,_,_,_=> none
 |.fieldAddr t x f=> match ZFc P t f with
  |some fl=> cond (Nat.beq (ZmI P fl.type) 0) none (on1 n a x fun y=> ZSx a fl y)
  |none=> none
 |.field t x f=> match ZFc P t f with
  |some fl=> on1 n a x fun y=> ZSw P a fl y
  |none=> none
 |.indexAddr t x i=> on2 n a x i fun x i=> ZSX P KD a t x i
 |.index t x i=> on2 n a x i fun x i=> ZSW P a t x i
 |.extract x i=> on1 n a x fun y=> ZSv a y i
 |.call c=> match c.callee with
  |.builtin .len=> match c.argTypes.toList,c.args.toList with
   |[t],[x]=> on1 n a x fun y=> ZTf P a t y
   |_,_=> none
  |.builtin .max=> match c.args.toList with
   |[x,y]=> on2 n a x y fun x y=> ZRp true a x y
   |_=> none
  |.builtin .min=> match c.args.toList with
   |[x,y]=> on2 n a x y fun x y=> ZRp false a x y
   |_=> none
  |.builtin .append=> cond hm none (match c.argTypes.toList,c.args.toList with
   |[t,u],[x,y]=> on2 n a x y fun x y=> ZR6 P KD a t u x y
   |_,_=> none)
  |_=> none
 |.makeFunc (.func f) first cap=> match ZMe n a first.toList,ZMe n a cap.toList with
  |some l,some l'=> one (fnA f l l') a
  |_,_=> none
 |_=> none
variable {P KD}
variable {ρ:Nat→V} {m:Nat→Nat} {a:SS} {f:Nat→V} {nb n:Nat} {g:Nat→Blk}
theorem ZTC (h:Rel P KD ρ m a f nb g) (hn:n < 1048576) {o:Option Operand} {x:Option A} (hx:ZPA n a o=some x):rdo (mkT 20 n f) o=some (x.map (A.den ρ m)):=by
 cases o with
 |none=> cases hx;rfl
 |some o=>
  unfold ZPA at hx
  simp only at hx
  split at hx
  ·rename_i y hy
   cases hx
   unfold rdo
   simp only
   rw[(ZKY h hn hy).1];rfl
  ·cases hx
theorem ZNX (h:Rel P KD ρ m a f nb g) (hn:n < 1048576):∀{l:List Operand} {xs:List A},ZMe n a l=some xs→rds (mkT 20 n f) l=some (A.dens ρ m xs)
 |[],_,hx=> by cases hx;rfl
 |x::l,xs,hx=> by
  unfold ZMe at hx
  split at hx
  ·rename_i y ys hy hys
   cases hx
   unfold rds
   rw[(ZKY h hn hy).1,ZNX h hn hys];rfl
  ·cases hx
theorem Z0c {f:Nat} {l l':List A}:A.den ρ m (fnA f l l')=.fn (.func f) (A.dens ρ m l) (A.dens ρ m l'):=by
 unfold fnA
 split
 ·rfl
 ·rfl
theorem ZLW (h:Rel P KD ρ m a f nb g) (hn:n < 1048576) {x:Operand} {k:A→Option (List (A×SS×AF))} {rs:List (A×SS×AF)} (hr:on1 n a x k=some rs):∃y,rd (mkT 20 n f) x=some (y.den ρ m)∧k y=some rs:=by
 unfold on1 at hr
 split at hr
 ·rename_i y hy
  exact⟨y,(ZKY h hn hy).1,hr⟩
 ·cases hr
theorem ZMS (h:Rel P KD ρ m a f nb g) (hn:n < 1048576) {x x':Operand} {k:A→A→Option (List (A×SS×AF))} {rs:List (A×SS×AF)} (hr:on2 n a x x' k=some rs):∃y y',rd (mkT 20 n f) x=some (y.den ρ m)∧rd (mkT 20 n f) x'=some (y'.den ρ m)∧k y y'=some rs:=by
 unfold on2 at hr
 split at hr
 ·rename_i y y' hy hy'
  exact⟨y,y',(ZKY h hn hy).1,(ZKY h hn hy').1,hr⟩
 ·cases hr
theorem Z1V (h:Rel P KD ρ m a f nb g) (hKD:∀e,(KD e true).length=(KD e false).length) (hn:n < 1048576) {get:Nat→Blk} (hg:∀r,r < nb→get r=g r) {hm:Bool} {op:Op} {rs:List (A×SS×AF)} (hr:opA P KD hm n a op=some rs):
 ∃e,(exec P hm op).run (mkT 20 n f) get nb=some e∧∃r∈rs,ZGK P KD ρ m a f nb g e r:=by
 unfold opA at hr
 split at hr
 ·obtain⟨y,h1,h2⟩:=ZLW h hn hr
  refine⟨{v:=y.den ρ m},?_,ZKv h h2 rfl⟩
  show rd1 _ _ _=_
  unfold rd1;rw[h1]
 ·obtain⟨y,h1,h2⟩:=ZLW h hn hr
  refine⟨{v:=y.den ρ m},?_,ZKv h h2 rfl⟩
  show rd1 _ _ _=_
  unfold rd1;rw[h1]
 ·rename_i c x y
  split at hr
  ·rename_i c' hc
   obtain⟨y1,y2,h1,h2,h3⟩:=ZMS h hn hr
   obtain⟨e,h4,h5⟩:=Z10 h h3
   refine⟨e,?_,h5⟩
   show rd1 _ _ (fun c=> rd2 _ _ _ fun a b=> ZCE c a b)=_
   unfold rd1 rd2;rw[(ZKY h hn hc).1];simp only;rw[h1,h2];exact h4
  ·cases hr
 ·rename_i t
  split at hr
  ·rename_i z hz
   obtain⟨r,h1,h2⟩:=ZXz h hr
   rw[ZLS] at h2
   refine⟨_,?_,r,h1,h2⟩
   unfold exec
   simp only
   rw[hz]
  ·cases hr
 ·obtain⟨y,h1,h2⟩:=ZLW h hn hr
  split at h2
  ·rename_i l hl
   obtain⟨r,h3,h4⟩:=ZXz h h2
   refine⟨_,?_,r,h3,h4⟩
   show rd1 _ _ _=_
   unfold rd1;rw[h1];simp only;rw[ZOW h hl]
  ·cases h2
 ·rename_i t ps
  split at hr
  ·rename_i l hl
   obtain⟨vs,h1,h2⟩:=ZTy h hn hl
   obtain⟨w,h3,h4⟩:=ZZI h h2 hr
   refine⟨{v:=w},?_,h4⟩
   show(match ZEw (mkT 20 n f) ps.toList with|some ps=> val (build P t ps)|none=> none)=_
   rw[h1];simp only;rw[h3];rfl
  ·cases hr
 ·rename_i t len ps
  cases hm with
  |true=> cases hr
  |false=>
   simp only[cond_false] at hr
   split at hr
   ·rename_i l hl
    obtain⟨vs,h1,h2⟩:=ZTy h hn hl
    obtain⟨e,h3,h4⟩:=Z1B (nid:=nb) h h2 hr
    refine⟨e,?_,h4⟩
    show(match ZEw (mkT 20 n f) ps.toList with
     |some ps=> match ZE1 P t len ps with
      |some (cs,sz)=> ZF8 false nb len cs sz
      |none=> none
     |none=> none)=_
    rw[h1];exact h3
   ·cases hr
 ·obtain⟨y,h1,h2⟩:=ZLW h hn hr
  obtain⟨e,h3,h4⟩:=Z1C h hg h2
  refine⟨e,?_,h4⟩
  show rd1 _ _ _=_
  unfold rd1;rw[h1];exact h3
 ·rename_i t p x
  cases hb:okT P t with
  |false=> rw[hb] at hr;cases hr
  |true=>
   rw[hb] at hr
   obtain⟨y,y',h1,h2,h3⟩:=ZMS h hn hr
   obtain⟨e,h4,h5⟩:=Z2A h hg h3
   refine⟨e,?_,h5⟩
   unfold exec
   simp only
   rw[if_pos hb]
   show rd2 _ _ _ _=_
   unfold rd2;rw[h1,h2];exact h4
 ·obtain⟨y,h1,h2⟩:=ZLW h hn hr
  obtain⟨e,h3,h4⟩:=Z1K h h2
  refine⟨e,?_,h4⟩
  show rd1 _ _ _=_
  unfold rd1;rw[h1];exact h3
 ·rename_i op t x y yt
  obtain⟨u,v,h1,h2,h3⟩:=ZMS h hn hr
  obtain⟨w,h4,h5⟩:=ZZB h h3
  refine⟨{v:=w},?_,h5⟩
  show rd2 _ x y (fun a b=> val (ZmJ P op t (isConst x) (isConst y) a b))=_
  unfold rd2;rw[h1,h2];simp only;rw[h4];rfl
 ·obtain⟨y,h1,h2⟩:=ZLW h hn hr
  obtain⟨e,h3,h4⟩:=Z22 h h2
  refine⟨e,?_,h4⟩
  show rd1 _ _ _=_
  unfold rd1;rw[h1];exact h3
 ·rename_i src dst x
  cases hb:okU P src with
  |false=> rw[hb] at hr;cases hr
  |true=>
   rw[hb] at hr
   obtain⟨y,h1,h2⟩:=ZLW h hn hr
   obtain⟨e,h3,h4⟩:=ZZU h h2
   refine⟨e,?_,h4⟩
   unfold exec
   simp only
   rw[if_pos hb]
   show rd1 _ _ _=_
   unfold rd1;rw[h1];exact h3
 ·rename_i t x lo hi mx
  split at hr
  ·rename_i x' lo' hi' mx' hx hlo hhi hmx
   obtain⟨w,h1,h2⟩:=Z2v h hKD hr
   refine⟨{v:=w},?_,h2⟩
   show(match rd (mkT 20 n f) x,rdo (mkT 20 n f) lo,rdo (mkT 20 n f) hi,rdo (mkT 20 n f) mx with
    |some x,some lo,some hi,some mx=> val (ZE4 P t x lo hi mx)
    |_,_,_,_=> none)=_
   rw[(ZKY h hn hx).1,ZTC h hn hlo,ZTC h hn hhi,ZTC h hn hmx]
   simp only
   rw[h1];rfl
  ·cases hr
 ·rename_i t x fi
  split at hr
  ·rename_i fl hfl
   cases hb:Nat.beq (ZmI P fl.type) 0 with
   |true=> rw[hb] at hr;cases hr
   |false=>
    rw[hb] at hr
    obtain⟨y,h1,h2⟩:=ZLW h hn hr
    obtain⟨w,h3,h4⟩:=ZZ6 h h2
    refine⟨{v:=w},?_,h4⟩
    have hne:¬ZmI P fl.type=0:=fun hh=> by rw[hh] at hb;cases hb
    unfold exec
    simp only
    rw[hfl]
    simp only
    rw[if_neg hne]
    show rd1 _ _ _=_
    unfold rd1;rw[h1];simp only;rw[h3];rfl
  ·cases hr
 ·rename_i t x fi
  split at hr
  ·rename_i fl hfl
   obtain⟨y,h1,h2⟩:=ZLW h hn hr
   obtain⟨e,h3,h4⟩:=ZZ5 h h2
   refine⟨e,?_,h4⟩
   unfold exec
   simp only
   rw[hfl]
   show rd1 _ _ _=_
   unfold rd1;rw[h1];exact h3
  ·cases hr
 ·rename_i t x i
  obtain⟨u,v,h1,h2,h3⟩:=ZMS h hn hr
  obtain⟨w,h4,h5⟩:=Z0s h hKD h3
  refine⟨{v:=w},?_,h5⟩
  show rd2 _ _ _ _=_
  unfold rd2;rw[h1,h2];simp only;rw[h4];rfl
 ·rename_i t x i
  obtain⟨u,v,h1,h2,h3⟩:=ZMS h hn hr
  obtain⟨e,h4,h5⟩:=Z0r h h3
  refine⟨e,?_,h5⟩
  show rd2 _ _ _ _=_
  unfold rd2;rw[h1,h2];exact h4
 ·obtain⟨y,h1,h2⟩:=ZLW h hn hr
  obtain⟨e,h3,h4⟩:=ZZ2 h h2
  refine⟨e,?_,h4⟩
  show rd1 _ _ _=_
  unfold rd1;rw[h1];exact h3
 ·rename_i c
  split at hr
  ·rename_i hc
   split at hr
   ·rename_i t x hts has
    obtain⟨y,h1,h2⟩:=ZLW h hn hr
    obtain⟨e,h3,h4⟩:=Z1t (get:=get) h h2
    refine⟨e,?_,h4⟩
    unfold exec
    simp only
    rw[hc]
    simp only
    rw[hts,has]
    unfold rds rds
    rw[h1]
    exact h3
   ·cases hr
  ·rename_i hc
   split at hr
   ·rename_i x y has
    obtain⟨u,v,h1,h2,h3⟩:=ZMS h hn hr
    obtain⟨w,h4,h5⟩:=ZXm (mx:=true) h h3
    refine⟨{v:=w},?_,h5⟩
    unfold exec
    simp only
    rw[hc]
    simp only
    rw[has]
    unfold rds rds rds
    rw[h1,h2]
    show val (ZDG true (u.den ρ m) [v.den ρ m])=_
    rw[h4];rfl
   ·cases hr
  ·rename_i hc
   split at hr
   ·rename_i x y has
    obtain⟨u,v,h1,h2,h3⟩:=ZMS h hn hr
    obtain⟨w,h4,h5⟩:=ZXm (mx:=false) h h3
    refine⟨{v:=w},?_,h5⟩
    unfold exec
    simp only
    rw[hc]
    simp only
    rw[has]
    unfold rds rds rds
    rw[h1,h2]
    show val (ZDG false (u.den ρ m) [v.den ρ m])=_
    rw[h4];rfl
   ·cases hr
  ·rename_i hc
   cases hm with
   |true=> cases hr
   |false=>
    simp only[cond_false] at hr
    split at hr
    ·rename_i t u x y hts has
     obtain⟨x',y',h1,h2,h3⟩:=ZMS h hn hr
     obtain⟨e,h4,h5⟩:=ZZx h hKD hg h3
     refine⟨e,?_,h5⟩
     unfold exec
     simp only
     rw[hc]
     simp only
     rw[hts,has]
     unfold rds rds rds
     rw[h1,h2]
     exact h4
    ·cases hr
  ·cases hr
 ·rename_i fi first cap
  split at hr
  ·rename_i l l' h1 h2
   refine⟨{v:=.fn (.func fi) (A.dens ρ m l) (A.dens ρ m l')},?_,ZKv h hr Z0c.symm⟩
   show(match rds (mkT 20 n f) first.toList,rds (mkT 20 n f) cap.toList with
    |some a,some b=> some ({v:=.fn (.func fi) a b}:Eff)
    |_,_=> none)=_
   rw[ZNX h hn h1,ZNX h hn h2]
  ·cases hr
 ·cases hr
end
end
end
end Go.Ae
end
