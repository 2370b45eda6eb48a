/- The abstract evaluator: drawn orders. -/
import Derived.Test.YtapdblnejhijnaaGreatA5
set_option linter.all false
noncomputable section
namespace Go.Ae
section
section
variable {P:Program}
structure LocR (rs0:List Nat) (F:(Nat→Blk)→Nat→Option Eff):Prop where
 get:∀get nid e,F get nid=some e→∀get',(∀r∈e.rd,get' r=get r)→F get' nid=some e
 nid:∀get nid e,F get nid=some e→e.nw=[]→∀nid',F get nid'=some e
 wr:∀get nid e,F get nid=some e→∀p∈e.wr,p.1∈e.rd∧(get p.1).live=true
 nw:∀get nid e,F get nid=some e→e.nw.length≤1
 rd:∀get nid e,F get nid=some e→∀r∈e.rd,r∈rs0∨get r≠.gone
abbrev Loc (F:(Nat→Blk)→Nat→Option Eff):Prop:=LocR [] F
theorem zbW {α:Type} {x y:α} (h:x∈[y]):x=y:=List.mem_singleton.1 h
theorem zXe {b:Blk} (h:b.live=true):b≠.gone:=fun hh=> by rw[hh] at h;cases h
theorem LocR.no {rs0:List Nat}:LocR rs0 fun _ _=> none:=⟨fun _ _ _ h=> (by cases h),fun _ _ _ h=> (by cases h),fun _ _ _ h=> (by cases h),fun _ _ _ h=> (by cases h),fun _ _ _ h=> (by cases h)⟩
theorem LocR.const {rs0:List Nat} (o:Option Eff) (hw:∀e,o=some e→e.wr=[]∧e.nw=[]∧∀r∈e.rd,r∈rs0):LocR rs0 fun _ _=> o where
 get _ _ _ h _ _:=h
 nid _ _ _ h _ _:=h
 wr _ _ e h p hp:=by rw[(hw e h).1] at hp;cases hp
 nw _ _ e h:=by rw[(hw e h).2.1];exact Nat.zero_le _
 rd _ _ e h r hr:=.inl ((hw e h).2.2 r hr)
theorem LocR.vl {rs0:List Nat} (x:Option V):LocR rs0 fun _ _=> val x:=.const _ fun e h=> by
 obtain⟨v,_,rfl⟩:=QI h;exact⟨rfl,rfl,fun _ hh=> (by cases hh)⟩
theorem LocR.ret {rs0:List Nat} (v:V):LocR rs0 fun _ _=> some {v}:=.const _ fun e h=> by
 obtain rfl:=Option.some.inj h;exact⟨rfl,rfl,fun _ hh=> (by cases hh)⟩
theorem LocR.new {rs0:List Nat} (f:Nat→Option Eff) (h:∀nid e,f nid=some e→e.wr=[]∧e.nw.length≤1∧(∀r∈e.rd,r∈rs0)∧(e.nw=[]→∀nid',f nid'=some e)):LocR rs0 fun _ nid=> f nid where
 get _ _ _ h' _ _:=h'
 nid _ nid e h' hn nid':=(h nid e h').2.2.2 hn nid'
 wr _ nid e h' p hp:=by rw[(h nid e h').1] at hp;cases hp
 nw _ nid e h':=(h nid e h').2.1
 rd _ nid e h' r hr:=.inl ((h nid e h').2.2.1 r hr)
theorem zXv (c a b:V):Loc fun _ _=> ZCE c a b:=.const _ fun e h=> by
 unfold ZCE at h
 split at h
 ·obtain rfl:=Option.some.inj h;exact⟨rfl,rfl,fun _ hh=> (by cases hh)⟩
 ·cases h
theorem zXu (x:V):Loc fun _ _=> ZCn P x:=.const _ fun e h=> by
 unfold ZCn at h
 split at h
 ·obtain rfl:=Option.some.inj h;exact⟨rfl,rfl,fun _ hh=> (by cases hh)⟩
 ·obtain rfl:=Option.some.inj h;exact⟨rfl,rfl,fun _ hh=> (by cases hh)⟩
 ·obtain rfl:=Option.some.inj h;exact⟨rfl,rfl,fun _ hh=> (by cases hh)⟩
 ·split at h
  ·obtain rfl:=Option.some.inj h;exact⟨rfl,rfl,fun _ hh=> (by cases hh)⟩
  ·cases h
 ·cases h
theorem zXy (op:UnOp) (x:V):Loc fun _ _=> xUn op x:=.const _ fun e h=> by
 unfold xUn at h
 split at h
 ·obtain rfl:=Option.some.inj h;exact⟨rfl,rfl,fun _ hh=> (by cases hh)⟩
 ·obtain rfl:=Option.some.inj h;exact⟨rfl,rfl,fun _ hh=> (by cases hh)⟩
 ·cases h
theorem zXi (d:TypeDesc) (x:V):Loc fun _ _=> ZFG d x:=.const _ fun e h=> by
 unfold ZFG at h
 split at h
 ·obtain rfl:=Option.some.inj h;exact⟨rfl,rfl,fun _ hh=> (by cases hh)⟩
 ·obtain rfl:=Option.some.inj h;exact⟨rfl,rfl,fun _ hh=> (by cases hh)⟩
 ·cases h
theorem zXm (d:TypeDesc) (x i:V):Loc fun _ _=> ZG7 P d x i:=.const _ fun e h=> by
 unfold ZG7 at h
 split at h
 ·split at h
  ·obtain⟨v,_,rfl⟩:=QI h;exact⟨rfl,rfl,fun _ hh=> (by cases hh)⟩
  ·cases h
 ·split at h
  ·obtain⟨v,_,rfl⟩:=QI h;exact⟨rfl,rfl,fun _ hh=> (by cases hh)⟩
  ·cases h
 ·cases h
theorem zXg (t:TypeId) (ok:Bool) (x:V):Loc fun _ _=> ZG5 P t ok x:=.const _ fun e h=> by
 unfold ZG5 at h
 split at h
 ·cases h
 ·cases h
 ·split at h
  ·split at h
   ·obtain rfl:=Option.some.inj h;exact⟨rfl,rfl,fun _ hh=> (by cases hh)⟩
   ·split at h
    ·split at h
     ·obtain rfl:=Option.some.inj h;exact⟨rfl,rfl,fun _ hh=> (by cases hh)⟩
     ·cases h
    ·cases h
  ·split at h
   ·split at h
    ·obtain rfl:=Option.some.inj h;exact⟨rfl,rfl,fun _ hh=> (by cases hh)⟩
    ·cases h
   ·cases h
  ·cases h
theorem zXk (x:V) (i:Nat):Loc fun _ _=> ZC6 x i:=.const _ fun e h=> by
 unfold ZC6 at h
 split at h
 ·obtain⟨v,_,rfl⟩:=QI h;exact⟨rfl,rfl,fun _ hh=> (by cases hh)⟩
 ·cases h
theorem zXl (f:Field) (x:V):Loc fun _ _=> ZG6 P f x:=.const _ fun e h=> by
 unfold ZG6 at h
 split at h
 ·obtain⟨v,_,rfl⟩:=QI h;exact⟨rfl,rfl,fun _ hh=> (by cases hh)⟩
 ·cases h
theorem zXo (hm:Bool) (len:Nat) (cs:List V) (sz:Nat):Loc fun _ nid=> ZF8 hm nid len cs sz:=.new _ fun nid e h=> by
 unfold ZF8 at h⊢
 split at h
 ·rename_i hc
  obtain rfl:=Option.some.inj h
  exact⟨rfl,Nat.zero_le _,fun _ hh=> (by cases hh),fun _ nid'=> by rw[if_pos hc]⟩
 ·obtain rfl:=Option.some.inj h
  exact⟨rfl,Nat.le_refl _,fun _ hh=> (by cases hh),fun hn=> (by cases hn)⟩
theorem zXr (t:TypeId) (l c:Int):Loc fun _ nid=> ZE6 P t nid l c:=.new _ fun nid e h=> by
 unfold ZE6 at h
 split at h
 ·split at h
  ·obtain rfl:=Option.some.inj h
   exact⟨rfl,Nat.le_refl _,fun _ hh=> (by cases hh),fun hn=> (by cases hn)⟩
  ·cases h
 ·cases h
theorem LocR.one {rs0:List Nat} (r:Nat) (f:Blk→Nat→Option Eff) (h:∀b nid e,f b nid=Option.some e→r∈e.rd∧(e.nw=[]→∀nid',f b nid'=Option.some e)∧(∀p∈e.wr,p.1=r)∧e.nw.length≤1∧b.live=true∧∀x∈e.rd,x=r∨x∈rs0):LocR rs0 fun get nid=> f (get r) nid where
 get get nid e h' get' hg:=by
  have:=hg r (h _ _ _ h').1
  show f (get' r) nid=_
  rw[this];exact h'
 nid get nid e h' hn nid':=(h _ _ _ h').2.1 hn nid'
 wr get nid e h' p hp:=by
  obtain⟨h1,_,h3,_,h5⟩:=h _ _ _ h'
  rw[h3 p hp];exact⟨h1,h5.1⟩
 nw get nid e h':=(h _ _ _ h').2.2.2.1
 rd get nid e h' x hx:=by
  obtain⟨_,_,_,_,h5,h6⟩:=h _ _ _ h'
  rcases h6 x hx with rfl|hx
  ·exact .inr (zXe h5)
  ·exact .inl hx
theorem zXp (t:TypeId) (p:V):Loc fun get _=> Zi3 P t get p:=by
 cases p with
 |iptr cs=> exact .vl _
 |ptr r off=>
  refine LocR.one r (fun b _=> match b with
   |.row _ cs=> if off≤cs.length then match ZCC P t (cs.drop off) with
    |.some v=> .some {v,rd:=[r]}
    |.none=> .none
   else .none
   |_=> .none) fun b nid e h=> ?_
  cases b with
  |row k cs=>
   simp only at h
   split at h
   ·rename_i ho
    cases hl:ZCC P t (cs.drop off) with
    |none=> rw[hl] at h;cases h
    |some v=>
     rw[hl] at h
     have he:=Option.some.inj h
     subst he
     exact⟨List.mem_singleton.2 rfl,fun _ _=> by simp only;rw[if_pos ho,hl],fun p hp=> (by cases hp),Nat.zero_le _,rfl,fun x hx=> .inl (zbW hx)⟩
   ·cases h
  |_=> cases h
 |_=> exact .no
theorem zXx (t:TypeId) (p x:V):Loc fun get _=> ZnB P t get p x:=by
 cases p with
 |ptr r off=>
  refine LocR.one r (fun b _=> match b with
   |.row k cs=> if k≤off∧x.cells.length=ZmI P t∧V.ones x.cells=true then match splice cs x.cells off with
    |.some cs'=> .some {v:=ZmM,rd:=[r],wr:=[(r,.row k cs')]}
    |.none=> .none
   else .none
   |_=> .none) fun b nid e h=> ?_
  cases b with
  |row k cs=>
   simp only at h
   split at h
   ·rename_i ho
    cases hl:splice cs x.cells off with
    |none=> rw[hl] at h;cases h
    |some v=>
     rw[hl] at h
     have he:=Option.some.inj h
     subst he
     exact⟨List.mem_singleton.2 rfl,fun _ _=> by simp only;rw[if_pos ho,hl],fun p hp=> (by rw[List.mem_singleton.1 hp]),Nat.zero_le _,rfl,fun x hx=> .inl (zbW hx)⟩
   ·cases h
  |_=> cases h
 |_=> exact .no
theorem zNL {get get':Nat→Blk} {m:V} {es:List (V×V)} {rs:List Nat} (h:mapOf get m=some (es,rs)) (hg:∀r∈rs,get' r=get r):mapOf get' m=some (es,rs):=by
 cases m with
 |map r=>
  simp only[mapOf] at h⊢
  split at h
  ·rename_i es' ver hr
   have h':=Option.some.inj h
   obtain⟨rfl,rfl⟩:=Prod.mk.inj h'
   rw[hg r (List.mem_singleton.2 rfl),hr]
  ·cases h
 |_=> exact h
theorem zNK {get:Nat→Blk} {m:V} {es:List (V×V)} {rs:List Nat} (h:mapOf get m=some (es,rs)):∀r∈rs,get r≠.gone:=by
 cases m with
 |map r=>
  simp only[mapOf] at h
  split at h
  ·rename_i es' ver hr
   obtain⟨rfl,rfl⟩:=Prod.mk.inj (Option.some.inj h)
   intro x hx
   rw[zbW hx,hr];simp
  ·cases h
 |nilm=>
  obtain⟨rfl,rfl⟩:=Prod.mk.inj (Option.some.inj h)
  intro x hx;cases hx
 |_=> cases h
theorem LocR.view {α:Type} (f:(Nat→Blk)→Option (α×List Nat)) (hf:∀get a rs,f get=some (a,rs)→(∀r∈rs,get r≠.gone)∧∀get',(∀r∈rs,get' r=get r)→f get'=some (a,rs))
 (k:α→List Nat→(Nat→Blk)→Nat→Option Eff) (hk:∀a rs,LocR rs (k a rs)) (hr:∀a rs get nid e,k a rs get nid=some e→∀r∈rs,r∈e.rd):
 Loc fun get nid=> match f get with|.some (a,rs)=> k a rs get nid|.none=> .none where
 get get nid e h get' hg:=by
  cases hq:f get with
  |none=> rw[hq] at h;cases h
  |some p=>
   obtain⟨a,rs⟩:=p
   rw[hq] at h
   have:=(hf get a rs hq).2 get' fun r hrs=> hg r (hr _ _ _ _ _ h r hrs)
   simp only[this]
   exact(hk a rs).get get nid e h get' hg
 nid get nid e h hn nid':=by
  cases hq:f get with
  |none=> rw[hq] at h;cases h
  |some p=>
   obtain⟨a,rs⟩:=p
   rw[hq] at h
   simp only
   exact(hk a rs).nid get nid e h hn nid'
 wr get nid e h p hp:=by
  cases hq:f get with
  |none=> rw[hq] at h;cases h
  |some p=>
   obtain⟨a,rs⟩:=p
   rw[hq] at h
   exact(hk a rs).wr get nid e h _ hp
 nw get nid e h:=by
  cases hq:f get with
  |none=> rw[hq] at h;cases h
  |some p=>
   obtain⟨a,rs⟩:=p
   rw[hq] at h
   exact(hk a rs).nw get nid e h
 rd get nid e h r hr:=by
  cases hq:f get with
  |none=> rw[hq] at h;cases h
  |some p=>
   obtain⟨a,rs⟩:=p
   rw[hq] at h
   rcases(hk a rs).rd get nid e h r hr with q|q
   ·exact .inr ((hf get a rs hq).1 r q)
   ·exact .inr q
theorem LocR.congr {rs0:List Nat} {F G:(Nat→Blk)→Nat→Option Eff} (h:LocR rs0 F) (e:∀get nid,G get nid=F get nid):LocR rs0 G:=by
 have:G=F:=funext fun a=> funext fun b=> e a b
 rw[this];exact h
theorem zXq (t:TypeId) (m k:V) (ok:Bool):Loc fun get _=> lookup P get t m k ok:=by
 refine LocR.congr (LocR.view (fun get=> mapOf get m) (fun get a rs h=> ⟨zNK h,fun get' hg=> zNL h hg⟩)
  (fun es rs _ _=> match und P t with
   |.map kt e=> if ZEd P kt k then match ZCU P kt k es 0 with
    |.some (.some (_,v))=> .some {v:=if ok then .tup [v,.bool true] else v,rd:=rs}
    |.some .none=> match zeroOf P e with
     |.some z=> .some {v:=if ok then .tup [z,.bool false] else z,rd:=rs}
     |.none=> .none
    |.none=> .none
   else .none
   |_=> .none) ?_ ?_) ?_
 ·intro es rs
  refine .const _ fun e h=> ?_
  split at h
  ·split at h
   ·split at h
    ·obtain rfl:=Option.some.inj h;exact⟨rfl,rfl,fun _ hh=> hh⟩
    ·split at h
     ·obtain rfl:=Option.some.inj h;exact⟨rfl,rfl,fun _ hh=> hh⟩
     ·cases h
    ·cases h
   ·cases h
  ·cases h
 ·intro es rs get nid e h r hr
  split at h
  ·split at h
   ·split at h
    ·obtain rfl:=Option.some.inj h;exact hr
    ·split at h
     ·obtain rfl:=Option.some.inj h;exact hr
     ·cases h
    ·cases h
   ·cases h
  ·cases h
 ·intro get nid
  unfold lookup
  cases hm:mapOf get m with
  |none=> cases und P t <;> rfl
  |some p=> obtain⟨es,rs⟩:=p;cases und P t <;> rfl
theorem zXt (t:TypeId) (m k v:V):Loc fun get _=> mapUpdate P get t m k v:=by
 cases m with
 |map r=>
  refine LocR.congr (LocR.one r (fun b _=> match und P t with
   |.map kt _=> if ZEd P kt k then match b with
    |.map es ver=> match ZCU P kt k es 0 with
     |.some (.some (i,_))=> match es[i]? with
      |.some (k',_)=> if sameKey k k' then .some {v:=ZmM,rd:=[r],wr:=[(r,.map (es.set i (k,v)) (ver+1))]} else .none
      |.none=> .none
     |.some .none=> .some {v:=ZmM,rd:=[r],wr:=[(r,.map (es++[(k,v)]) (ver+1))]}
     |.none=> .none
    |_=> .none
   else .none
   |_=> .none) ?_) ?_
  ·intro b nid e h
   have h0:=h
   have key:r∈e.rd∧(∀p∈e.wr,p.1=r)∧e.nw.length≤1∧b.live=true∧∀x∈e.rd,x=r∨x∈([]:List Nat):=by
    split at h
    ·split at h
     ·split at h
      ·split at h
       ·split at h
        ·split at h
         ·obtain rfl:=Option.some.inj h
          exact⟨List.mem_singleton.2 rfl,fun p hp=> (by rw[List.mem_singleton.1 hp]),Nat.zero_le _,rfl,fun x hx=> .inl (zbW hx)⟩
         ·cases h
        ·cases h
       ·obtain rfl:=Option.some.inj h
        exact⟨List.mem_singleton.2 rfl,fun p hp=> (by rw[List.mem_singleton.1 hp]),Nat.zero_le _,rfl,fun x hx=> .inl (zbW hx)⟩
       ·cases h
      ·cases h
     ·cases h
    ·cases h
   exact⟨key.1,fun _ _=> h0,key.2⟩
  ·intro get nid
   unfold mapUpdate
   cases und P t <;> rfl
 |_=>
  refine LocR.congr LocR.no fun get nid=> ?_
  unfold mapUpdate
  cases und P t <;> rfl
theorem zXs (t:TypeId) (m k v:V):Loc fun get _=> ZE2 P get t m k v:=by
 cases m with
 |map r=>
  refine LocR.congr (LocR.one r (fun b _=> match und P t with
   |.map kt _=> match und P kt,ZDO k,b with
    |.string,.some a,.map es ver=> if others a es then .some {v:=ZmM,rd:=[r],wr:=[(r,.map (ZCs a (k,v) es) (ver+1))]} else .none
    |_,_,_=> .none
   |_=> .none) ?_) ?_
  ·intro b nid e h
   have h0:=h
   have key:r∈e.rd∧(∀p∈e.wr,p.1=r)∧e.nw.length≤1∧b.live=true∧∀x∈e.rd,x=r∨x∈([]:List Nat):=by
    split at h
    ·split at h
     ·split at h
      ·obtain rfl:=Option.some.inj h
       exact⟨List.mem_singleton.2 rfl,fun p hp=> (by rw[List.mem_singleton.1 hp]),Nat.zero_le _,rfl,fun x hx=> .inl (zbW hx)⟩
      ·cases h
     ·cases h
    ·cases h
   exact⟨key.1,fun _ _=> h0,key.2⟩
  ·intro get nid
   unfold ZE2
   cases und P t <;> rfl
 |_=>
  refine LocR.congr LocR.no fun get nid=> ?_
  unfold ZE2
  cases und P t <;> rfl
theorem zXw (x:V):Loc fun get nid=> ZG8 get nid x:=by
 cases x with
 |nilm=> exact LocR.new _ fun nid e h=> by obtain rfl:=Option.some.inj h;exact⟨rfl,Nat.le_refl _,fun _ hh=> (by cases hh),fun hn=> (by cases hn)⟩
 |map m=>
  refine LocR.one m (fun b nid=> match b with
   |.map es ver=> .some {v:=.ptr nid 0,rd:=[m],nw:=[.iter (.some m) ver es .none]}
   |_=> .none) fun b nid e h=> ?_
  cases b with
  |map es ver=>
   obtain rfl:=Option.some.inj h
   exact⟨List.mem_singleton.2 rfl,fun hn=> (by cases hn),fun p hp=> (by cases hp),Nat.le_refl _,rfl,fun x hx=> .inl (zbW hx)⟩
  |_=> cases h
 |_=> exact .no
theorem zXj (x:V):Loc fun get _=> ZFn get x where
 get get nid e h get' hg:=by
  unfold ZFn at h⊢
  split at h
  ·rename_i r
   split at h
   ·rename_i m ver left k v hr
    split at h
    ·rename_i es ver' hm
     split at h
     ·rename_i hv
      have he:=Option.some.inj h
      subst he
      simp only[hg r (by simp),hg m (by simp),hr,hm,hv,if_true]
     ·cases h
    ·cases h
   ·cases h
  ·cases h
 nid get nid e h _ nid':=h
 wr get nid e h p hp:=by
  unfold ZFn at h
  split at h
  ·split at h
   ·split at h
    ·split at h
     ·obtain rfl:=Option.some.inj h;cases hp
     ·cases h
    ·cases h
   ·cases h
  ·cases h
 nw get nid e h:=by
  unfold ZFn at h
  split at h
  ·split at h
   ·split at h
    ·split at h
     ·obtain rfl:=Option.some.inj h;exact Nat.zero_le _
     ·cases h
    ·cases h
   ·cases h
  ·cases h
 rd get nid e h x hx:=by
  unfold ZFn at h
  split at h
  ·split at h
   ·rename_i hr
    split at h
    ·rename_i hm
     split at h
     ·obtain rfl:=Option.some.inj h
      rcases List.mem_cons.1 hx with rfl|hx
      ·exact .inr (by rw[hr];simp)
      ·rw[zbW hx];exact .inr (by rw[hm];simp)
     ·cases h
    ·cases h
   ·cases h
  ·cases h
theorem zYW {get:Nat→Blk} {s:V} {cs:List V} {n:Nat} {rs:List Nat} (h:ZC9 get s=some (cs,n,rs)):∀r∈rs,get r≠.gone:=by
 cases s with
 |hs r off len cap sz ex=>
  simp only[ZC9] at h
  split at h
  ·rename_i k ds hr
   split at h
   ·obtain⟨_,h''⟩:=Prod.mk.inj (Option.some.inj h)
    obtain⟨_,rfl⟩:=Prod.mk.inj h''
    intro x hx
    rw[zbW hx,hr];simp
   ·cases h
  ·cases h
 |nils=>
  obtain⟨_,h''⟩:=Prod.mk.inj (Option.some.inj h)
  obtain⟨_,rfl⟩:=Prod.mk.inj h''
  intro x hx;cases hx
 |vs _ _ _ _=>
  obtain⟨_,h''⟩:=Prod.mk.inj (Option.some.inj h)
  obtain⟨_,rfl⟩:=Prod.mk.inj h''
  intro x hx;cases hx
 |_=> cases h
theorem zYX {get get':Nat→Blk} {s:V} {cs:List V} {n:Nat} {rs:List Nat} (h:ZC9 get s=some (cs,n,rs)) (hg:∀r∈rs,get' r=get r):ZC9 get' s=some (cs,n,rs):=by
 cases s with
 |hs r off len cap sz ex=>
  simp only[ZC9] at h⊢
  split at h
  ·rename_i k ds hr
   split at h
   ·rename_i ho
    have h':=Option.some.inj h
    obtain⟨rfl,h''⟩:=Prod.mk.inj h'
    obtain⟨rfl,rfl⟩:=Prod.mk.inj h''
    rw[hg r (List.mem_singleton.2 rfl),hr]
    simp only[ho,if_true]
   ·cases h
  ·cases h
 |_=> exact h
def ZGw (P:Program) (hm:Bool) (e:TypeId) (cs:List V) (len sz:Nat) (new:List V) (n:Nat) (rs:List Nat) (r e':Nat) (b:Blk) (nid:Nat):Option Eff:=
 if sz=ZmI P e∧ZD4 P e (len+n) then (match b with
      |.tok hw=> if hw=e' then
       (if V.pures (V.seals new) && !hm then some {v:=.vs (cs++V.seals new) (len+n) (ZmI P e) (.tok r (e'+n)),rd:=r::rs,wr:=[(r,.tok (e'+n))]}
        else some {v:=.hs nid 0 (len+n) (len+n) (ZmI P e) false,rd:=r::rs,wr:=[(r,.gone)],nw:=[.row (len * ZmI P e) (cs++new)]})
       else none
      |_=> none) else none
def ZGv (P:Program) (e:TypeId) (off len cap sz:Nat) (ex:Bool) (new:List V) (n:Nat) (rs:List Nat) (r:Nat) (b:Blk) (nid:Nat):Option Eff:=
 if sz=ZmI P e∧ZD4 P e (len+n) then (match b with
  |.row k cs=>
   if off+len * ZmI P e≤cs.length then
    if len+n≤cap then if k≤off+len * ZmI P e then match splice cs new (off+len * ZmI P e) with
     |some cs'=> some {v:=.hs r off (len+n) cap (ZmI P e) ex,rd:=r::rs,wr:=[(r,.row k cs')]}
     |none=> none
     else none
    else if ex then some {v:=.hs nid 0 (len+n) (len+n) (ZmI P e) false,rd:=r::rs,nw:=[.row 0 ((cs.drop off).take (len * ZmI P e)++new)]}
    else if off+len * ZmI P e=cs.length∧k≤cs.length then
     some {v:=.hs nid 0 (len+n) (len+n) (ZmI P e) false,rd:=r::rs,wr:=[(r,.gone)],nw:=[.row (k - off) (cs.drop off++new)]}
    else none
   else none
  |_=> none) else none
theorem zND (hm:Bool) (e:TypeId) (s:V) (new:List V) (n:Nat) (rs:List Nat):(LocR rs fun get nid=> ZCY P hm get nid e s new n rs)∧∀get nid ef,ZCY P hm get nid e s new n rs=some ef→∀r∈rs,r∈ef.rd:=by
 by_cases hz:okZ P e=false
 ·have h0:∀get nid,ZCY P hm get nid e s new n rs=none:=fun get nid=> by unfold ZCY;simp only[hz,if_true]
  exact⟨LocR.congr LocR.no h0,fun get nid ef h=> by rw[h0] at h;cases h⟩
 have hz:okZ P e=true:=by simpa using hz
 cases s with
 |nils=>
  have h0:∀get nid,ZCY P hm get nid e .nils new n rs=(if ZD4 P e n then (if V.pures (V.seals new) && !hm then
   some {v:=.vs ([]++V.seals new) (0+n) (ZmI P e) (.tok nid (0+n)),rd:=rs,nw:=[.tok (0+n)]} else
   some {v:=.hs nid 0 (0+n) (0+n) (ZmI P e) false,rd:=rs,nw:=[.row 0 ([]++new)]}) else none):=fun get nid=> by unfold ZCY;simp only[hz,Bool.true_eq_false,if_false]
  refine⟨LocR.congr (LocR.new (fun nid=> _) fun nid ef h=> ?_) h0,fun get nid ef h=> ?_⟩
  ·split at h
   ·split at h
    ·obtain rfl:=Option.some.inj h;exact⟨rfl,Nat.le_refl _,fun _ hh=> hh,fun hn=> (by cases hn)⟩
    ·obtain rfl:=Option.some.inj h;exact⟨rfl,Nat.le_refl _,fun _ hh=> hh,fun hn=> (by cases hn)⟩
   ·cases h
  ·rw[h0] at h
   split at h
   ·split at h
    ·obtain rfl:=Option.some.inj h;exact fun r hr=> hr
    ·obtain rfl:=Option.some.inj h;exact fun r hr=> hr
   ·cases h
 |vs cs len sz own=>
  cases own with
  |tight=>
   have h0:∀get nid,ZCY P hm get nid e (.vs cs len sz .tight) new n rs=(if sz=ZmI P e∧ZD4 P e (len+n) then (if V.pures (V.seals new) && !hm then
    some {v:=.vs (cs++V.seals new) (len+n) (ZmI P e) (.tok nid (len+n)),rd:=rs,nw:=[.tok (len+n)]} else
    some {v:=.hs nid 0 (len+n) (len+n) (ZmI P e) false,rd:=rs,nw:=[.row 0 (cs++new)]}) else none):=fun get nid=> by unfold ZCY;simp only[hz,Bool.true_eq_false,if_false]
   refine⟨LocR.congr (LocR.new (fun nid=> _) fun nid ef h=> ?_) h0,fun get nid ef h=> ?_⟩
   ·split at h
    ·split at h
     ·obtain rfl:=Option.some.inj h;exact⟨rfl,Nat.le_refl _,fun _ hh=> hh,fun hn=> (by cases hn)⟩
     ·obtain rfl:=Option.some.inj h;exact⟨rfl,Nat.le_refl _,fun _ hh=> hh,fun hn=> (by cases hn)⟩
    ·cases h
   ·rw[h0] at h
    split at h
    ·split at h
     ·obtain rfl:=Option.some.inj h;exact fun r hr=> hr
     ·obtain rfl:=Option.some.inj h;exact fun r hr=> hr
    ·cases h
  |tok r e'=>
   have h0:∀get nid,ZCY P hm get nid e (.vs cs len sz (.tok r e')) new n rs=ZGw P hm e cs len sz new n rs r e' (get r) nid:=fun get nid=> by
    unfold ZCY;simp only[hz,Bool.true_eq_false,if_false];rfl
   refine⟨LocR.congr (LocR.one r (ZGw P hm e cs len sz new n rs r e') fun b nid ef h=> ?_) h0,fun get nid ef h=> ?_⟩
   ·unfold ZGw at h⊢
    split at h
    ·rename_i hc
     cases b with
     |tok hw=>
      simp only at h
      split at h
      ·rename_i hw'
       split at h
       ·rename_i hp
        obtain rfl:=Option.some.inj h
        exact⟨List.mem_cons_self,fun _ _=> by simp only[hc,hw',hp,if_true,and_self],fun p hp=> (by rw[List.mem_singleton.1 hp]),Nat.zero_le _,rfl,fun x hx=> List.mem_cons.1 hx⟩
       ·obtain rfl:=Option.some.inj h
        exact⟨List.mem_cons_self,fun hn=> (by cases hn),fun p hp=> (by rw[List.mem_singleton.1 hp]),Nat.le_refl _,rfl,fun x hx=> List.mem_cons.1 hx⟩
      ·cases h
     |_=> cases h
    ·cases h
   ·rw[h0] at h
    unfold ZGw at h
    split at h
    ·split at h
     ·split at h
      ·split at h
       ·obtain rfl:=Option.some.inj h;exact fun r hr=> List.mem_cons_of_mem _ hr
       ·obtain rfl:=Option.some.inj h;exact fun r hr=> List.mem_cons_of_mem _ hr
      ·cases h
     ·cases h
    ·cases h
  |lock=>
   have h0:∀get nid,ZCY P hm get nid e (.vs cs len sz .lock) new n rs=none:=fun get nid=> by unfold ZCY;simp only[hz,Bool.true_eq_false,if_false,ite_self]
   exact⟨LocR.congr LocR.no h0,fun get nid ef h=> by rw[h0] at h;cases h⟩
 |hs r off len cap sz ex=>
  have h0:∀get nid,ZCY P hm get nid e (.hs r off len cap sz ex) new n rs=ZGv P e off len cap sz ex new n rs r (get r) nid:=fun get nid=> by
   unfold ZCY;simp only[hz,Bool.true_eq_false,if_false];rfl
  refine⟨LocR.congr (LocR.one r (ZGv P e off len cap sz ex new n rs r) fun b nid ef h=> ?_) h0,fun get nid ef h=> ?_⟩
  ·unfold ZGv at h⊢
   split at h
   ·rename_i hc
    cases b with
    |row k ds=>
     simp only at h
     split at h
     ·rename_i h1
      split at h
      ·rename_i h2
       split at h
       ·rename_i h3
        split at h
        ·rename_i cs' h4
         obtain rfl:=Option.some.inj h
         exact⟨List.mem_cons_self,fun _ _=> by simp only[hc,h1,h2,h3,h4,if_true,and_self],fun p hp=> (by rw[List.mem_singleton.1 hp]),Nat.zero_le _,rfl,fun x hx=> List.mem_cons.1 hx⟩
        ·cases h
       ·cases h
      ·split at h
       ·obtain rfl:=Option.some.inj h
        exact⟨List.mem_cons_self,fun hn=> (by cases hn),fun p hp=> (by cases hp),Nat.le_refl _,rfl,fun x hx=> List.mem_cons.1 hx⟩
       ·split at h
        ·obtain rfl:=Option.some.inj h
         exact⟨List.mem_cons_self,fun hn=> (by cases hn),fun p hp=> (by rw[List.mem_singleton.1 hp]),Nat.le_refl _,rfl,fun x hx=> List.mem_cons.1 hx⟩
        ·cases h
     ·cases h
    |_=> cases h
   ·cases h
  ·rw[h0] at h
   unfold ZGv at h
   split at h
   ·split at h
    ·split at h
     ·split at h
      ·split at h
       ·split at h
        ·obtain rfl:=Option.some.inj h;exact fun r hr=> List.mem_cons_of_mem _ hr
        ·cases h
       ·cases h
      ·split at h
       ·obtain rfl:=Option.some.inj h;exact fun r hr=> List.mem_cons_of_mem _ hr
       ·split at h
        ·obtain rfl:=Option.some.inj h;exact fun r hr=> List.mem_cons_of_mem _ hr
        ·cases h
     ·cases h
    ·cases h
   ·cases h
 |_=>
  refine⟨LocR.congr LocR.no fun get nid=> ?_,fun get nid ef h=> ?_⟩
  ·unfold ZCY;simp only[hz,Bool.true_eq_false,if_false,ite_self]
  ·unfold ZCY at h;simp only[hz,Bool.true_eq_false,if_false,ite_self] at h;cases h
end
section
variable {P:Program}
theorem zXn (t:TypeId) (x:V):Loc fun get _=> ZDQ P get t x:=by
 have key:∀m:V,Loc fun get _=> match mapOf get m with|some (es,rs)=> some {v:=.int .i64 (es.length:Int),rd:=rs}|none=> none:=fun m=> by
  refine LocR.congr (LocR.view (fun get=> mapOf get m) (fun get a rs h=> ⟨zNK h,fun get' hg=> zNL h hg⟩) (fun es rs _ _=> some {v:=.int .i64 (es.length:Int),rd:=rs}) (fun es rs=> .const _ fun e h=> ?_) (fun es rs get nid e h r hr=> ?_)) (fun get nid=> by cases mapOf get m with|none=> rfl|some p=> obtain⟨a,b⟩:=p;rfl)
  ·obtain rfl:=Option.some.inj h;exact⟨rfl,rfl,fun _ hh=> hh⟩
  ·obtain rfl:=Option.some.inj h;exact hr
 unfold ZDQ
 cases und P t with
 |string=> cases x <;> first|exact LocR.ret _|exact LocR.no
 |array n e=> exact LocR.ret _
 |slice e=> cases x <;> first|exact LocR.ret _|exact LocR.no
 |map k e=> exact key x
 |_=> exact LocR.no
theorem zXh (hm:Bool) (b:Builtin) (ts:List TypeId) (args:List V):Loc fun get nid=> ZmL P hm get nid b ts args:=by
 unfold ZmL
 cases b with
 |len=>
  simp only
  split
  ·exact zXn _ _
  ·exact LocR.no
 |append=>
  simp only
  split
  ·rename_i t u s x
   split
   ·exact LocR.no
   ·rename_i e _ _
    by_cases hc:okU P u=false∨okZ P e=false
    ·exact LocR.congr LocR.no fun get nid=> by rw[if_pos hc]
    ·refine LocR.congr (LocR.view (α:=List V×Nat) (fun get=> match ZC9 get x with|some (cs,n,rs)=> some ((cs,n),rs)|none=> none) ?_
      (fun p rs get nid=> if V.ones p.1=false∨p.1.length≠p.2 * ZmI P e then none else if p.2=0 then (match s with|.nils|.vs _ _ _ _|.hs _ _ _ _ _ _=> some {v:=s,rd:=rs}|_=> none) else ZCY P hm get nid e s p.1 p.2 rs) ?_ ?_) ?_
     ·intro get p rs h
      cases hs:ZC9 get x with
      |none=> rw[hs] at h;cases h
      |some q=>
       obtain⟨cs,n,rs'⟩:=q
       rw[hs] at h
       obtain⟨rfl,rfl⟩:=Prod.mk.inj (Option.some.inj h)
       exact⟨zYW hs,fun get' hg=> by rw[zYX hs hg]⟩
     ·intro p rs
      by_cases h1:V.ones p.1=false∨p.1.length≠p.2 * ZmI P e
      ·exact LocR.congr LocR.no fun get nid=> by rw[if_pos h1]
      ·by_cases h2:p.2=0
       ·refine LocR.congr (LocR.const (match s with|.nils|.vs _ _ _ _|.hs _ _ _ _ _ _=> some {v:=s,rd:=rs}|_=> none) fun ef h=> ?_) fun get nid=> by rw[if_neg h1,if_pos h2]
        split at h
        ·obtain rfl:=Option.some.inj h;exact⟨rfl,rfl,fun _ hh=> hh⟩
        ·obtain rfl:=Option.some.inj h;exact⟨rfl,rfl,fun _ hh=> hh⟩
        ·obtain rfl:=Option.some.inj h;exact⟨rfl,rfl,fun _ hh=> hh⟩
        ·cases h
       ·exact LocR.congr (zND hm e s p.1 p.2 rs).1 fun get nid=> by rw[if_neg h1,if_neg h2]
     ·intro p rs get nid ef h r hr
      split at h
      ·cases h
      ·split at h
       ·split at h
        ·obtain rfl:=Option.some.inj h;exact hr
        ·obtain rfl:=Option.some.inj h;exact hr
        ·obtain rfl:=Option.some.inj h;exact hr
        ·cases h
       ·exact(zND hm e s p.1 p.2 rs).2 get nid ef h r hr
     ·intro get nid
      rw[if_neg hc]
      cases hs:ZC9 get x with
      |none=> rfl
      |some q=> obtain⟨cs,n,rs'⟩:=q;rfl
   ·exact LocR.no
  ·exact LocR.no
 |max=>
  simp only
  split
  ·exact LocR.vl _
  ·exact LocR.no
 |min=>
  simp only
  split
  ·exact LocR.vl _
  ·exact LocR.no
 |_=> exact LocR.no
theorem Loc.rd1 {regs:T V} {x:Operand} {k:V→(Nat→Blk)→Nat→Option Eff} (h:∀v,Loc (k v)):Loc fun get nid=> rd1 regs x fun v=> k v get nid:=by
 cases hr:rd regs x with
 |none=> exact LocR.congr LocR.no fun get nid=> by unfold Ae.rd1;rw[hr]
 |some v=> exact LocR.congr (h v) fun get nid=> by unfold Ae.rd1;rw[hr]
theorem Loc.rd2 {regs:T V} {x y:Operand} {k:V→V→(Nat→Blk)→Nat→Option Eff} (h:∀v u,Loc (k v u)):Loc fun get nid=> rd2 regs x y fun v u=> k v u get nid:=by
 cases hr:rd regs x with
 |none=> exact LocR.congr LocR.no fun get nid=> by unfold Ae.rd2;rw[hr]
 |some v=>
  cases hu:rd regs y with
  |none=> exact LocR.congr LocR.no fun get nid=> by unfold Ae.rd2;rw[hr,hu]
  |some u=> exact LocR.congr (h v u) fun get nid=> by unfold Ae.rd2;rw[hr,hu]
theorem zkO (hm:Bool) (op:Op) (regs:T V):Loc fun get nid=> (exec P hm op).run regs get nid:=by
 unfold exec
 cases op with
 |move x=> exact Loc.rd1 fun v=> LocR.ret v
 |assign x=> exact Loc.rd1 fun v=> LocR.ret v
 |pick c a b=> exact Loc.rd1 fun c=> Loc.rd2 fun a b=> zXv c a b
 |alloc t=>
  simp only
  split
  ·exact LocR.new _ fun nid e h=> by obtain rfl:=Option.some.inj h;exact⟨rfl,Nat.le_refl _,fun _ hh=> (by cases hh),fun hn=> (by cases hn)⟩
  ·exact LocR.no
 |box t x=> exact Loc.rd1 fun v=> LocR.new _ fun nid e h=> by obtain rfl:=Option.some.inj h;exact⟨rfl,Nat.le_refl _,fun _ hh=> (by cases hh),fun hn=> (by cases hn)⟩
 |build t ps=>
  simp only
  split
  ·exact LocR.vl _
  ·exact LocR.no
 |buildSlice t len ps=>
  simp only
  split
  ·split
   ·exact zXo _ _ _ _
   ·exact LocR.no
  ·exact LocR.no
 |load t a=> exact Loc.rd1 fun v=> zXp t v
 |store t a x=>
  simp only
  split
  ·exact Loc.rd2 fun a x=> zXx t a x
  ·exact LocR.no
 |nilCheck x=> exact Loc.rd1 fun v=> zXu v
 |binOp op t x y u=> exact Loc.rd2 fun a b=> LocR.vl _
 |unOp op t x=> exact Loc.rd1 fun v=> zXy op v
 |convert src dst x=>
  simp only
  split
  ·exact Loc.rd1 fun v=> zXi _ v
  ·exact LocR.no
 |makeInterface t x=>
  simp only
  split
  ·exact LocR.no
  ·split
   ·exact Loc.rd1 fun v=> LocR.ret _
   ·exact LocR.no
 |makeFunc f first cap=>
  cases f with
  |func g=>
   simp only
   split
   ·exact LocR.ret _
   ·exact LocR.no
  |method n=>
   simp only
   split
   ·exact LocR.ret _
   ·exact LocR.no
  |_=> exact LocR.no
 |makeMap t r=>
  cases r with
  |none=> exact LocR.new _ fun nid e h=> by obtain rfl:=Option.some.inj h;exact⟨rfl,Nat.le_refl _,fun _ hh=> (by cases hh),fun hn=> (by cases hn)⟩
  |some r=> exact LocR.no
 |makeSlice t l c=>
  simp only
  split
  ·refine Loc.rd2 fun l c=> ?_
   split
   ·exact zXr _ _ _
   ·exact LocR.no
  ·exact LocR.no
 |slice t x lo hi mx=>
  simp only
  split
  ·exact LocR.vl _
  ·exact LocR.no
 |fieldAddr t x f=>
  simp only
  split
  ·split
   ·exact LocR.no
   ·exact Loc.rd1 fun v=> LocR.vl _
  ·exact LocR.no
 |field t x f=>
  simp only
  split
  ·exact Loc.rd1 fun v=> zXl _ v
  ·exact LocR.no
 |indexAddr t x i=> exact Loc.rd2 fun a b=> LocR.vl _
 |index t x i=> exact Loc.rd2 fun a b=> zXm _ a b
 |lookup t m k ok=> exact Loc.rd2 fun m k=> zXq t m k ok
 |mapUpdate t m k x=> exact Loc.rd1 fun m=> Loc.rd2 fun k x=> zXt t m k x
 |insert t m k x=> exact Loc.rd1 fun m=> Loc.rd2 fun k x=> zXs t m k x
 |range t x=>
  simp only
  split
  ·exact Loc.rd1 fun v=> zXw v
  ·exact LocR.no
 |entry x=> exact Loc.rd1 fun v=> zXj v
 |typeAssert x xt t ok=> exact Loc.rd1 fun v=> zXg t ok v
 |extract x i=> exact Loc.rd1 fun v=> zXk v i
 |call c=>
  simp only
  split
  ·simp only
   split
   ·exact zXh _ _ _ _
   ·exact LocR.no
  ·exact LocR.no
 |_=> exact LocR.no
def agree (xs:List Operand) (regs regs':T V):Prop:=∀t,Operand.tmp t∈xs→regs.get ZmM t=regs'.get ZmM t
theorem zCQ {regs regs':T V} {x:Operand} (h:∀t,x=.tmp t→regs.get ZmM t=regs'.get ZmM t):rd regs x=rd regs' x:=by
 cases x with
 |tmp t=> exact congrArg some (h t rfl)
 |_=> rfl
theorem zwn {xs:List Operand} {regs regs':T V} (h:agree xs regs regs') {x:Operand} (hx:x∈xs):rd regs x=rd regs' x:=zCQ fun t ht=> h t (ht ▸ hx)
theorem zwo {regs regs':T V}:∀{xs:List Operand},agree xs regs regs'→rds regs xs=rds regs' xs
 |[],_=> rfl
 |x::xs,h=> by
  simp only[rds]
  rw[zwn h List.mem_cons_self,zwo (xs:=xs) fun t ht=> h t (List.mem_cons_of_mem _ ht)]
theorem zCO {regs regs':T V}:∀{xs:List (Nat×Operand)},agree (xs.map (·.2)) regs regs'→ZEw regs xs=ZEw regs' xs
 |[],_=> rfl
 |(i,x)::xs,h=> by
  simp only[ZEw]
  rw[zwn h (List.mem_cons_self),zCO (xs:=xs) fun t ht=> h t (List.mem_cons_of_mem _ ht)]
theorem zCR {regs regs':T V} {x:Option Operand} (h:∀y,x=some y→rd regs y=rd regs' y):rdo regs x=rdo regs' x:=by
 cases x with
 |none=> rfl
 |some y=> simp only[rdo];rw[h y rfl]
theorem zDQ (hm:Bool) (op:Op) {regs regs':T V} (h:agree op.operands.toList regs regs') (get:Nat→Blk) (nid:Nat):(exec P hm op).run regs get nid=(exec P hm op).run regs' get nid:=by
 have one:∀x∈op.operands.toList,rd regs x=rd regs' x:=fun x hx=> zwn h hx
 unfold exec
 cases op with
 |move x=> simp only[Ae.rd1];rw[one x (by simp[Op.operands])]
 |assign x=> simp only[Ae.rd1];rw[one x (by simp[Op.operands])]
 |pick c a b=> simp only[Ae.rd1,Ae.rd2];rw[one c (by simp[Op.operands]),one a (by simp[Op.operands]),one b (by simp[Op.operands])]
 |alloc t=> simp only;split <;> rfl
 |box t x=> simp only[Ae.rd1];rw[one x (by simp[Op.operands])]
 |build t ps=> simp only;rw[zCO (xs:=ps.toList) fun t ht=> h t (by simpa[Op.operands] using ht)]
 |buildSlice t len ps=> simp only;rw[zCO (xs:=ps.toList) fun t ht=> h t (by simpa[Op.operands] using ht)]
 |load t a=> simp only[Ae.rd1];rw[one a (by simp[Op.operands])]
 |store t a x=> simp only[Ae.rd2];split <;> first|rfl|(simp only;rw[one a (by simp[Op.operands]),one x (by simp[Op.operands])])
 |nilCheck x=> simp only[Ae.rd1];rw[one x (by simp[Op.operands])]
 |binOp op t x y u=> simp only[Ae.rd2];rw[one x (by simp[Op.operands]),one y (by simp[Op.operands])]
 |unOp op t x=> simp only[Ae.rd1];rw[one x (by simp[Op.operands])]
 |convert src dst x=> simp only[Ae.rd1];split <;> first|rfl|(simp only;rw[one x (by simp[Op.operands])])
 |makeInterface t x=>
  simp only[Ae.rd1]
  split
  ·rfl
  ·split
   ·simp only;rw[one x (by simp[Op.operands])]
   ·rfl
 |makeFunc f first cap=>
  have e1:=zwo (xs:=first.toList) fun t ht=> h t (by simp only[Op.operands,Array.toList_append];exact List.mem_append_left _ ht)
  have e2:=zwo (xs:=cap.toList) fun t ht=> h t (by simp only[Op.operands,Array.toList_append];exact List.mem_append_right _ ht)
  cases f with
  |func g=> simp only;rw[e1,e2]
  |method n=> simp only;rw[e1,e2]
  |_=> rfl
 |makeMap t r=> cases r <;> rfl
 |makeSlice t l c=> simp only[Ae.rd2];split <;> first|rfl|(simp only;rw[one l (by simp[Op.operands]),one c (by simp[Op.operands])])
 |slice t x lo hi mx=>
  simp only
  rw[one x (by simp[Op.operands]),zCR (x:=lo) fun y hy=> one y (by simp[Op.operands,hy]),zCR (x:=hi) fun y hy=> one y (by simp[Op.operands,hy]),zCR (x:=mx) fun y hy=> one y (by simp[Op.operands,hy])]
 |fieldAddr t x f=>
  simp only[Ae.rd1]
  split
  ·split
   ·rfl
   ·simp only;rw[one x (by simp[Op.operands])]
  ·rfl
 |field t x f=>
  simp only[Ae.rd1]
  split
  ·simp only;rw[one x (by simp[Op.operands])]
  ·rfl
 |indexAddr t x i=> simp only[Ae.rd2];rw[one x (by simp[Op.operands]),one i (by simp[Op.operands])]
 |index t x i=> simp only[Ae.rd2];rw[one x (by simp[Op.operands]),one i (by simp[Op.operands])]
 |lookup t m k ok=> simp only[Ae.rd2];rw[one m (by simp[Op.operands]),one k (by simp[Op.operands])]
 |mapUpdate t m k x=> simp only[Ae.rd1,Ae.rd2];rw[one m (by simp[Op.operands]),one k (by simp[Op.operands]),one x (by simp[Op.operands])]
 |insert t m k x=> simp only[Ae.rd1,Ae.rd2];rw[one m (by simp[Op.operands]),one k (by simp[Op.operands]),one x (by simp[Op.operands])]
 |range t x=>
  simp only[Ae.rd1]
  split
  ·simp only;rw[one x (by simp[Op.operands])]
  ·rfl
 |entry x=> simp only[Ae.rd1];rw[one x (by simp[Op.operands])]
 |typeAssert x xt t ok=> simp only[Ae.rd1];rw[one x (by simp[Op.operands])]
 |extract x i=> simp only[Ae.rd1];rw[one x (by simp[Op.operands])]
 |call c=>
  simp only
  split
  ·simp only
   rw[zwo (xs:=c.args.toList) fun t ht=> h t (by simp only[Op.operands,Call.operands,Array.toList_append];exact List.mem_append_right _ ht)]
  ·rfl
 |_=> rfl
theorem zPO (c:Call) {regs regs':T V} (h:agree c.operands.toList regs regs'):(ZDu P c).run regs=(ZDu P c).run regs':=by
 have e1:=zwo (xs:=c.args.toList) fun t ht=> h t (by simp only[Call.operands,Array.toList_append];exact List.mem_append_right _ ht)
 unfold ZDu
 cases hc:c.callee with
 |value f=> simp only;rw[e1,zwn h (x:=f) (by simp[Call.operands,hc])]
 |invoke r n=> simp only;rw[e1,zwn h (x:=r) (by simp[Call.operands,hc])]
 |builtin b=> rfl
theorem zDe (ops:Array Oper) (o:Oper) {regs regs':T V} (h:∀j want d,o.guard=some (j,want)→(ops[j]?).bind (·.dst)=some d→regs.get ZmM d=regs'.get ZmM d):(ZCO ops o).run regs=(ZCO ops o).run regs':=by
 unfold ZCO
 cases hg:o.guard with
 |none=> rfl
 |some p=>
  obtain⟨j,want⟩:=p
  simp only
  cases hd:(ops[j]?).bind (·.dst) with
  |none=> rfl
  |some d=> simp only;rw[h j want d hg hd]
end
section
variable {P:Program}
structure Grow (h h':H):Prop where
 wf:h.wf→h'.wf
 n:h.n≤h'.n
 dirty:∀x∈h.dirty,x∈h'.dirty
 get:h.wf→∀j,j < h.n→j∉h'.dirty→h'.get j=h.get j
theorem Grow.refl (h:H):Grow h h:=⟨id,Nat.le_refl _,fun _ hx=> hx,fun _ _ _ _=> rfl⟩
theorem Grow.trans {h h1 h2:H} (a:Grow h h1) (b:Grow h1 h2):Grow h h2 where
 wf hw:=b.wf (a.wf hw)
 n:=Nat.le_trans a.n b.n
 dirty x hx:=b.dirty x (a.dirty x hx)
 get hw j hj hd:=by rw[b.get (a.wf hw) j (Nat.lt_of_lt_of_le hj a.n) hd,a.get hw j hj fun hh=> hd (b.dirty j hh)]
theorem Grow.set (h:H) (r:Nat) (b:Blk):Grow h (h.set r b) where
 wf hw:=H.wf_set hw r b
 n:=Nat.le_refl _
 dirty x hx:=List.mem_cons_of_mem _ hx
 get hw j hj hd:=by
  rw[H.get_set hw,if_neg]
  rintro⟨rfl,_⟩
  exact hd List.mem_cons_self
theorem Grow.new (h:H) (b:Blk):Grow h (h.new b) where
 wf hw:=H.wf_new hw b
 n:=Nat.le_succ _
 dirty x hx:=hx
 get hw j hj hd:=by rw[H.get_new hw,if_neg (by omega)]
theorem Grow.sets:∀(l:List (Nat×Blk)) (h:H),Grow h (l.foldl (fun h (p:Nat×Blk)=> h.set p.1 p.2) h)
 |[],h=> .refl h
 |p::l,h=> (Grow.set h p.1 p.2).trans (Grow.sets l _)
theorem Grow.news:∀(l:List Blk) (h:H),Grow h (h.news l)
 |[],h=> .refl h
 |b::l,h=> (Grow.new h b).trans (Grow.news l _)
theorem Grow.apply (e:Eff) (h:H):Grow h (e.apply h):=(Grow.sets e.wr h).trans (Grow.news e.nw _)
structure EvGrow (E:Ev):Prop where
 call:∀f args h outs,E.call f args h=some outs→∀r∈outs,Grow h r.2
 code:∀cx c s outs,E.code cx c s=some outs→∀r∈outs,Grow s.h r.2.h
theorem Qb {α:Type} {x y:α} (h:x∈[y]):x=y:=List.mem_singleton.1 h
theorem zkB {α β:Type} {f:α→Option β}:∀{l:List α} {l':List β},ZCT f l=some l'→∀y∈l',∃x∈l,f x=some y
 |[],_,h,y,hy=> by obtain rfl:=Option.some.inj h;cases hy
 |a::l,l',h,y,hy=> by
  simp only[ZCT] at h
  cases h1:f a with
  |none=> simp[h1] at h
  |some b=>
   cases h2:ZCT f l with
   |none=> simp[h1,h2] at h
   |some bs=>
    simp only[h1,h2,Option.some.injEq] at h
    subst h
    rcases List.mem_cons.1 hy with rfl|hm
    ·exact⟨a,List.mem_cons_self,h1⟩
    ·obtain⟨x,hx,hf⟩:=zkB h2 y hm
     exact⟨x,List.mem_cons_of_mem _ hx,hf⟩
theorem zwC {α β:Type} {f:α→Option (List β)}:∀{l:List α} {out:List β},ZCA f l=some out→∀y∈out,∃x∈l,∃ys,f x=some ys∧y∈ys
 |[],_,h,y,hy=> by obtain rfl:=Option.some.inj h;cases hy
 |[a],out,h,y,hy=> ⟨a,List.mem_singleton.2 rfl,out,h,hy⟩
 |a::b::l,out,h,y,hy=> by
  simp only[ZCA] at h
  cases h1:f a with
  |none=> simp[h1] at h
  |some ys=>
   cases h2:ZCA f (b::l) with
   |none=> simp[h1,h2] at h
   |some zs=>
    simp only[h1,h2,Option.some.injEq] at h
    subst h
    rcases List.mem_append.1 hy with hm|hm
    ·exact⟨a,List.mem_cons_self,ys,h1,hm⟩
    ·obtain⟨x,hx,ys',q1,q2⟩:=zwC h2 y hm
     exact⟨x,List.mem_cons_of_mem _ hx,ys',q1,q2⟩
section
variable {hint:Hint} {known:Known} {E:Ev}
theorem zQW {l:Nat} {r:Ex×St} {p:V×H} (h:ZFu l r=some p):Grow r.2.h p.2:=by
 unfold ZFu at h
 split at h
 ·split at h
  ·obtain rfl:=Option.some.inj h;exact .set _ _ _
  ·obtain rfl:=Option.some.inj h;exact .set _ _ _
  ·obtain rfl:=Option.some.inj h;exact .set _ _ _
  ·cases h
 ·cases h
theorem zQZ (hE:EvGrow E) {h:H} {l:Nat} {args:List V} {outs:List (V×H)} (ho:ZEi E h l args=some outs):∀r∈outs,Grow h r.2:=by
 unfold ZEi at ho
 split at ho
 ·split at ho
  ·split at ho
   ·rename_i s1 hc1
    split at ho
    ·split at ho
     ·rename_i bouts hc2
      intro r hr
      obtain⟨x,hx,hf⟩:=zkB ho r hr
      have g1:=hE.code _ _ _ _ hc1 _ (List.mem_singleton.2 rfl)
      have g2:=hE.code _ _ _ _ hc2 x hx
      exact(g1.trans (.set _ _ _)).trans (g2.trans (zQW hf))
     ·cases ho
    ·cases ho
   ·cases ho
  ·cases ho
 ·cases ho
theorem zEj (s:St) (o:Oper) (e:Eff):Grow s.h (s.effR o e).2.h:=by
 unfold St.effR
 cases e.pan <;> exact .apply _ _
theorem zQS (hE:EvGrow E) {o:Oper} {s:St} {c:Option Callee1} {rs:List (Ex×St)} (h:ZEa hint known E o s c=some rs):∀r∈rs,Grow s.h r.2.h:=by
 unfold ZEa at h
 split at h
 ·split at h
  ·split at h
   ·rename_i e _
    obtain rfl:=Option.some.inj h
    intro s' hs'
    rw[Qb hs']
    exact zEj _ _ _
   ·rename_i es _ _
    obtain rfl:=Option.some.inj h
    intro s' hs'
    obtain⟨e,_,rfl⟩:=List.mem_map.1 hs'
    exact zEj _ _ _
   ·cases h
  ·split at h
   ·rename_i outs ho
    obtain rfl:=Option.some.inj h
    intro s' hs'
    obtain⟨r,hr,rfl⟩:=List.mem_map.1 hs'
    have:=hE.call _ _ _ _ ho r hr
    obtain⟨rv,h1⟩:=r
    cases rv <;> exact this
   ·cases h
 ·split at h
  ·rename_i outs ho
   obtain rfl:=Option.some.inj h
   intro s' hs'
   obtain⟨r,hr,rfl⟩:=List.mem_map.1 hs'
   exact zQZ hE ho r hr
  ·cases h
 ·cases h
theorem zEm (hE:EvGrow E) {fn:FuncId} {o:Oper} {cx:Cx} {s:St} {ss:List (Ex×St)} (h:(op1 P hint known fn o).run E cx s=some ss):∀r∈ss,Grow s.h r.2.h:=by
 unfold op1 at h
 split at h
 ·split at h
  ·simp only at h
   split at h
   ·obtain rfl:=Option.some.inj h
    intro s' hs';rw[Qb hs'];exact .apply _ _
   ·cases h
  ·exact zQS hE h
 ·simp only at h
  split at h
  ·split at h
   ·obtain rfl:=Option.some.inj h
    intro s' hs'
    obtain⟨e,_,rfl⟩:=List.mem_map.1 hs'
    exact .apply _ _
   ·cases h
  ·cases h
 ·simp only at h
  split at h
  ·obtain rfl:=Option.some.inj h
   intro s' hs';rw[Qb hs'];exact .refl _
  ·cases h
 ·simp only at h
  split at h
  ·obtain rfl:=Option.some.inj h
   intro s' hs';rw[Qb hs'];exact .refl _
  ·cases h
 ·simp only at h
  split at h
  ·obtain rfl:=Option.some.inj h
   intro s' hs';rw[Qb hs'];exact .apply _ _
  ·cases h
theorem zwV (hE:EvGrow E) {fn:FuncId} {all:Array Oper} {cx:Cx}:∀(l:List Oper) {s:St} {ss:List (Ex×St)},(opsV P hint known fn all l).run E cx s=some ss→∀r∈ss,Grow s.h r.2.h
 |[],s,ss,h=> by
  obtain rfl:=Option.some.inj h
  intro s' hs';rw[Qb hs'];exact .refl _
 |o::l,s,ss,h=> by
  have h:(if (ZCO all o).run s.regs then
   match (op1 P hint known fn o).run E cx s with
   |some [(.normal,s)]=> (opsV P hint known fn all l).run E cx s
   |some rs=> ZCA (fun r=> match r.1 with
    |.normal=> (opsV P hint known fn all l).run E cx r.2
    |_=> some [r]) rs
   |none=> none
  else (opsV P hint known fn all l).run E cx {s with regs:=put s.regs o.dst ZmM})=some ss:=h
  split at h
  ·split at h
   ·rename_i s1 ho
    intro s' hs'
    exact(zEm hE ho _ (List.mem_singleton.2 rfl)).trans (zwV hE l h s' hs')
   ·rename_i ss1 _ ho
    intro s' hs'
    obtain⟨s1,h1,ys,q1,q2⟩:=zwC h s' hs'
    have g1:=zEm hE ho s1 h1
    obtain⟨x1,s1⟩:=s1
    cases x1 with
    |normal=> exact g1.trans (zwV hE l q1 s' q2)
    |_=> obtain rfl:=Option.some.inj q1;rw[Qb q2];exact g1
   ·cases h
  ·intro s' hs'
   have q:=zwV hE l h s' hs'
   exact q
theorem zwU {fn:FuncId} {all:Array Oper} {bef:List Nat}:∀(l:List (Oper×Nat)) {dn:List (Nat×Foot)} {s s':St},(ZCV P hint known fn all bef l).run E dn s=some s'→Grow s.h s'.h
 |[],dn,s,s',h=> by obtain rfl:=Option.some.inj h;exact .refl _
 |(o,i)::l,dn,s,s',h=> by
  have h:(if (ZCO all o).run s.regs then
   match (opD P hint known fn o).run E s.regs s.h.get s.h.n with
   |some e=> match e with
    |⟨v,[],[],[],false⟩=> (ZCV P hint known fn all bef l).run E dn {s with regs:=put s.regs o.dst v}
    |e=> if dn.all (fun (j,f')=> ZDB bef all o i j (e.foot s.h.n) f') then (ZCV P hint known fn all bef l).run E ((i,e.foot s.h.n)::dn) (s.eff o e) else none
   |none=> none
  else (ZCV P hint known fn all bef l).run E dn {s with regs:=put s.regs o.dst ZmM})=some s':=h
  split at h
  ·split at h
   ·split at h
    ·have q:=zwU l h;exact q
    ·split at h
     ·exact(Grow.apply _ _).trans (zwU l h)
     ·cases h
   ·cases h
  ·have q:=zwU l h;exact q
theorem zQX {h h':H} {p:V} (he:ZGg h p=some h'):Grow h h':=by
 unfold ZGg at he
 split at he
 ·split at he
  ·split at he
   ·split at he
    ·cases he
    ·split at he
     ·split at he
      ·obtain rfl:=Option.some.inj he
       exact((Grow.set _ _ _).trans (.set _ _ _)).trans (.new _ _)
      ·cases he
     ·cases he
   ·cases he
  ·cases he
 ·cases he
theorem zEk:∀(ts:List Tmp) {regs:T V} {h h':H},ZFQ regs ts h=some h'→Grow h h'
 |[],regs,h,h',he=> by obtain rfl:=Option.some.inj he;exact .refl _
 |t::ts,regs,h,h',he=> by
  simp only[ZFQ] at he
  split at he
  ·rename_i h1 h1e;exact(zQX h1e).trans (zEk ts he)
  ·cases he
theorem zEl {cx:Cx} {id:Nat} {s:St} {r:Ex×St} (he:ZDK hint cx id s=some r):Grow s.h r.2.h:=by
 unfold ZDK at he
 split at he
 ·obtain rfl:=Option.some.inj he;exact .refl _
 ·split at he
  ·rename_i h1 h1e
   obtain rfl:=Option.some.inj he;exact zEk _ h1e
  ·cases he
theorem zEn (hE:EvGrow E) {cx:Cx} {x y:Code} {s:St} {outs:List (Ex×St)} (h:ZD5 E cx y (E.code cx x s)=some outs):∀r∈outs,Grow s.h r.2.h:=by
 unfold ZD5 at h
 split at h
 ·rename_i s1 h1
  intro r hr
  exact(hE.code _ _ _ _ h1 _ (List.mem_singleton.2 rfl)).trans (hE.code _ _ _ _ h r hr)
 ·rename_i outs1 _ h1
  intro r hr
  obtain⟨x1,hx1,ys,q1,q2⟩:=zwC h r hr
  have g1:=hE.code _ _ _ _ h1 x1 hx1
  split at q1
  ·exact g1.trans (hE.code _ _ _ _ q1 r q2)
  ·obtain rfl:=Option.some.inj q1
   rw[Qb q2];exact g1
 ·cases h
theorem zQT (hE:EvGrow E) {cx:Cx} {c:Code} {s:St} {outs:List (Ex×St)} (h:(ZEq P hint known cx.fn c).run E cx s=some outs):∀r∈outs,Grow s.h r.2.h:=by
 have one:∀{x:Ex},some [(x,s)]=some outs→∀r∈outs,Grow s.h r.2.h:=by
  intro x hh
  obtain rfl:=Option.some.inj hh
  intro r hr;rw[Qb hr];exact .refl _
 unfold ZEq at h
 cases c with
 |skip=> exact one h
 |label l=> exact one h
 |exit id=> exact one h
 |ret=> exact one h
 |region id os draw=>
  dsimp only at h
  split at h
  ·split at h
   ·simp only at h
    split at h
    ·rename_i s1 h1
     split at h
     ·rename_i r1 hr1
      obtain rfl:=Option.some.inj h
      intro r hr;rw[Qb hr]
      exact(zwU _ h1).trans (zEl hr1)
     ·cases h
    ·cases h
   ·cases h
  ·simp only at h
   split at h
   ·rename_i ss h1
    intro r hr
    obtain⟨s1,hs1,hf⟩:=zkB h r hr
    have g1:=zwV hE _ h1 s1 hs1
    obtain⟨x1,s1⟩:=s1
    cases x1 with
    |normal=> exact g1.trans (zEl hf)
    |_=> obtain rfl:=Option.some.inj hf;exact g1
   ·cases h
 |seq a b=> exact zEn hE h
 |cond c a b=>
  simp only at h
  split at h
  ·exact hE.code _ _ _ _ h
  ·exact hE.code _ _ _ _ h
  ·cases h
 |block id b=>
  simp only at h
  split at h
  ·rename_i outs1 h1
   obtain rfl:=Option.some.inj h
   intro r hr
   obtain⟨x,hx,rfl⟩:=List.mem_map.1 hr
   have:=hE.code _ _ _ _ h1 x hx
   split <;> exact this
  ·cases h
 |loop b=> exact zEn hE h
 |scope b=> exact hE.code _ _ _ _ h
 |rangeFunc f ps asg body=>
  simp only at h
  split at h
  ·rename_i d dfs h0 g first cap hra _
   split at h
   ·rename_i couts hc
    intro r hr
    obtain⟨x,hx,ys,q1,q2⟩:=zwC h r hr
    have g0:Grow s.h h0:=by
     unfold rangeAt at hra
     split at hra
     ·split at hra
      ·obtain⟨rfl,h23⟩:=Prod.mk.inj (Option.some.inj hra)
       obtain⟨rfl,rfl⟩:=Prod.mk.inj h23
       exact .refl _
      ·cases hra
     ·obtain⟨rfl,h23⟩:=Prod.mk.inj (Option.some.inj hra)
      obtain⟨rfl,rfl⟩:=Prod.mk.inj h23
      exact .new _ _
    have g1:=(g0.trans (.new _ _)).trans (hE.call _ _ _ _ hc x hx)
    obtain⟨rv,h2⟩:=x
    unfold ZEh at q1
    cases rv with
    |pan v=>
     obtain rfl:=Option.some.inj q1
     rw[Qb q2];exact g1
    |ret v=>
    try simp only at q1
    split at q1
    ·split at q1
     ·cases q1
     ·try simp only at q1
      split at q1
      ·obtain rfl:=Option.some.inj q1
       rw[Qb q2];exact g1.trans (.set _ _ _)
      ·exact(g1.trans (.set _ _ _)).trans (hE.code _ _ _ _ q1 r q2)
    ·cases q1
   ·cases h
  ·cases h
 |_=> cases h
theorem zQU (hE:EvGrow E) {f:FuncId} {xs:List V} {m m':Option V} {h h':H} (hd:ZFb P E f xs m h=some (m',h')):Grow h h':=by
 unfold ZFb at hd
 split at hd
 ·split at hd
  ·split at hd
   ·split at hd
    ·split at hd
     ·split at hd
      ·try simp only at hd
       split at hd
       ·rename_i hc
        split at hd
        ·obtain⟨_,rfl⟩:=Prod.mk.inj (Option.some.inj hd)
         exact hE.code _ _ _ _ hc _ (List.mem_singleton.2 rfl)
        ·cases hd
       ·rename_i hc
        split at hd
        ·obtain⟨_,rfl⟩:=Prod.mk.inj (Option.some.inj hd)
         exact hE.code _ _ _ _ hc _ (List.mem_singleton.2 rfl)
        ·cases hd
       ·cases hd
      ·cases hd
     ·simp only[Bool.false_and,Bool.false_eq_true,if_false] at hd;cases hd
    ·cases hd
   ·cases hd
  ·cases hd
 ·cases hd
theorem zkQ (hE:EvGrow E):∀(ds:List D) {m m':Option V} {h h':H},ZDh P known E ds m h=some (m',h')→Grow h h'
 |[],m,m',h,h',he=> by obtain⟨_,rfl⟩:=Prod.mk.inj (Option.some.inj he);exact .refl _
 |.mark r::ds,m,m',h,h',he=> by
  simp only[ZDh] at he
  split at he
  ·exact(Grow.set _ _ _).trans (zkQ hE ds he)
  ·cases he
 |.call f _ _::ds,m,m',h,h',he=> by
  simp only[ZDh] at he
  split at he
  ·exact zkQ hE ds he
  ·split at he
   ·rename_i hd
    exact(zQU hE hd).trans (zkQ hE ds he)
   ·cases he
theorem zQV (hE:EvGrow E) {fn:Func} {r:Ex×St} {p:R×H} (h:ZDD P known E fn r=some p):Grow r.2.h p.2:=by
 have key:∀m,(match ZDh P known E r.2.dfs m r.2.h with
  |some (none,h)=> match ZD2 P fn {r.2 with h} with
   |some v=> some (R.ret v,h)
   |none=> none
  |some (some v,h)=> some (R.pan v,h)
  |none=> none)=some p→Grow r.2.h p.2:=by
  intro m h
  split at h
  ·rename_i h1 hu
   split at h
   ·obtain rfl:=Option.some.inj h;exact zkQ hE _ hu
   ·cases h
  ·rename_i v h1 hu
   obtain rfl:=Option.some.inj h;exact zkQ hE _ hu
  ·cases h
 unfold ZDD at h
 split at h
 ·cases h
 ·exact key _ h
theorem zy8 (hE:EvGrow E) {f:FuncId} {args:List V} {h:H} {outs:List (R×H)} (ho:(ZDL P known f).run E args h=some outs):∀r∈outs,Grow h r.2:=by
 unfold ZDL at ho
 split at ho
 ·cases ho
 ·split at ho
  ·cases ho
  ·simp only at ho
   split at ho
   ·split at ho
    ·rename_i couts hc
     intro r hr
     obtain⟨x,hx,hf⟩:=zkB ho r hr
     exact(hE.code _ _ _ _ hc x hx).trans (zQV hE hf)
    ·cases ho
   ·cases ho
end
theorem zQY {known:Known} {f:FuncId} {args:List V} {h:H} {run:H→Option (List (R×H))} {outs:List (R×H)} (ho:ZFd known f args h run=some outs):∀r∈outs,Grow h r.2:=by
 unfold ZFd at ho
 split at ho
 ·split at ho
  ·split at ho
   ·obtain rfl:=Option.some.inj ho
    intro r hr
    obtain rfl:=List.mem_singleton.1 hr
    exact Grow.apply _ _
   ·split at ho
    ·split at ho
     ·obtain rfl:=Option.some.inj ho
      intro r hr
      obtain rfl:=List.mem_singleton.1 hr
      exact Grow.apply _ _
     ·cases ho
    ·cases ho
  ·cases ho
 ·cases ho
theorem zQR {hint:Hint} {known:Known} {E:Ev} (hE:EvGrow E) {f:FuncId} {args:List V} {h:H} {outs:List (R×H)} (ho:ZEo P hint known E f args h=some outs):∀r∈outs,Grow h r.2:=by
 unfold ZEo at ho
 cases hf:hint.frame f with
 |true=> rw[hf] at ho;exact zQY ho
 |false=> rw[hf] at ho;exact zy8 hE ho
theorem zkM (hint:Hint) (known:Known):∀n,EvGrow (ev P hint known n)
 |0=> ⟨fun _ _ _ _ h=> (by cases h),fun _ _ _ _ h=> (by cases h)⟩
 |n+1=> ⟨fun _ _ _ _ h=> zQR (zkM hint known n) h,fun _ _ _ _ h=> zQT (zkM hint known n) h⟩
end
section
variable {P:Program}
theorem zjk {get:Nat→Blk}:∀(f:Nat) {work seen out:List Nat},reach get f work seen=some out→
 (∀r∈seen,r∈out)∧(∀r∈work,r∈out)∧∀r∈out,r∈seen∨((get r).plain=true∧∀i∈(get r).ids,i∈out)
 |0,_,_,_,h=> by cases h
 |f+1,[],seen,out,h=> by
  obtain rfl:=Option.some.inj h
  exact⟨fun _ h=> h,fun _ h=> (by cases h),fun _ h=> .inl h⟩
 |f+1,r::work,seen,out,h=> by
  simp only[reach] at h
  split at h
  ·rename_i hc
   obtain⟨h1,h2,h3⟩:=zjk f h
   refine⟨h1,fun x hx=> ?_,h3⟩
   rcases List.mem_cons.1 hx with rfl|hx
   ·exact h1 _ (by simpa using hc)
   ·exact h2 x hx
  ·split at h
   ·rename_i hp
    obtain⟨h1,h2,h3⟩:=zjk f h
    refine⟨fun x hx=> h1 x (List.mem_cons_of_mem _ hx),fun x hx=> ?_,fun x hx=> ?_⟩
    ·rcases List.mem_cons.1 hx with rfl|hx
     ·exact h1 _ List.mem_cons_self
     ·exact h2 x (List.mem_append_right _ hx)
    ·rcases h3 x hx with hx'|hx'
     ·rcases List.mem_cons.1 hx' with rfl|hx'
      ·exact .inr ⟨hp,fun i hi=> h2 i (List.mem_append_left _ hi)⟩
      ·exact .inl hx'
     ·exact .inr hx'
   ·cases h
theorem zCT {get get':Nat→Blk}:∀(f:Nat) {work seen out:List Nat},reach get f work seen=some out→(∀r∈out,get' r=get r)→reach get' f work seen=some out
 |0,_,_,_,h,_=> by cases h
 |f+1,[],seen,out,h,_=> h
 |f+1,r::work,seen,out,h,hg=> by
  simp only[reach] at h⊢
  split at h
  ·rename_i hc
   rw[if_pos hc];exact zCT f h hg
  ·rename_i hc
   rw[if_neg hc]
   split at h
   ·rename_i hp
    have hr:r∈out:=(zjk f h).1 r List.mem_cons_self
    rw[hg r hr,if_pos hp]
    exact zCT f h hg
   ·cases h
theorem T.get_fill2 {α:Type} (d e:α) (f:Nat):∀n,n < 2 ^ f→∀k,(T.fill d f n).get e k=if k < n then d else e:=by
 induction f with
 |zero=> intro n h k;rw[if_neg (by omega)];rfl
 |succ f ih=>
  intro n h k
  cases n with
  |zero=> rw[if_neg (by omega)];rfl
  |succ n=>
   have hp:2 ^ (f+1)=2 * 2 ^ f:=by rw[Nat.pow_succ];omega
   show(T.nd d (T.fill d f ((n+1) / 2)) (T.fill d f (n / 2))).get e k=_
   cases k with
   |zero=> rw[if_pos (by omega)];rfl
   |succ k=>
    rw[T.get_ndS]
    split
    ·rw[ih _ (by omega)]
     by_cases hk:k / 2 < (n+1) / 2
     ·rw[if_pos hk,if_pos (by omega)]
     ·rw[if_neg hk,if_neg (by omega)]
    ·rw[ih _ (by omega)]
     by_cases hk:k / 2 < n / 2
     ·rw[if_pos hk,if_pos (by omega)]
     ·rw[if_neg hk,if_neg (by omega)]
theorem zD4 {get:Nat→Blk} {n:Nat}:∀(rs:List Nat) (t:T Blk),t.full n→(∀r∈rs,r < n)→(rs.foldl (fun t r=> t.set r (get r)) t).full n∧∀j,(rs.foldl (fun t r=> t.set r (get r)) t).get .gone j=if j∈rs then get j else t.get .gone j
 |[],t,hf,_=> ⟨hf,fun j=> by rw[if_neg (by simp)];rfl⟩
 |r::rs,t,hf,hr=> by
  obtain⟨h1,h2⟩:=zD4 rs (t.set r (get r)) (T.full_set hf r _) fun x hx=> hr x (List.mem_cons_of_mem _ hx)
  refine⟨h1,fun j=> ?_⟩
  show(rs.foldl _ (t.set r (get r))).get .gone j=_
  rw[h2,T.get_set_full _ hf]
  by_cases hj:j∈rs
  ·rw[if_pos hj,if_pos (List.mem_cons_of_mem _ hj)]
  ·rw[if_neg hj]
   by_cases hjr:j=r
   ·subst hjr
    rw[if_pos ⟨rfl,hr j List.mem_cons_self⟩,if_pos List.mem_cons_self]
   ·rw[if_neg (fun hh=> hjr hh.1),if_neg (by simp[hj,hjr])]
theorem zyj {get:Nat→Blk} {n:Nat} {rs:List Nat} (hn:n < 2 ^ 20) (hr:∀r∈rs,r < n):(H.only get n rs).wf∧(H.only get n rs).n=n∧∀j,j < n→(H.only get n rs).get j=if j∈rs then get j else .resv:=by
 obtain⟨h1,h2⟩:=zD4 (get:=get) rs (T.fill .resv 20 n) (T.full_fill _ 20 n hn) hr
 refine⟨h1,rfl,fun j hj=> ?_⟩
 show(rs.foldl _ (T.fill Blk.resv 20 n)).get .gone j=_
 rw[h2,T.get_fill2 _ _ 20 n hn,if_pos hj]
theorem zN9 {get get':Nat→Blk} {n:Nat}:∀{rs:List Nat},(∀r∈rs,get' r=get r)→H.only get' n rs=H.only get n rs:=by
 intro rs h
 have key:∀(rs:List Nat) (t:T Blk),(∀r∈rs,get' r=get r)→rs.foldl (fun t r=> t.set r (get' r)) t=rs.foldl (fun t r=> t.set r (get r)) t:=by
  intro rs
  induction rs with
  |nil=> intro t _;rfl
  |cons r rs ih=>
   intro t h
   simp only[List.foldl_cons]
   rw[h r List.mem_cons_self]
   exact ih _ fun x hx=> h x (List.mem_cons_of_mem _ hx)
 unfold H.only
 rw[key rs _ h]
structure At.leOn (S:Nat→Prop) (A B:At):Prop where
 ptr:∀r o x,S r→A.ptr r o x→B.ptr r o x
 hs:∀r o l c s e x n,S r→A.hs r o l c s e x n→B.hs r o l c s e x n
 map:∀r x,S r→A.map r x→B.map r x
 yld:∀r l,S r→A.yld r l→B.yld r l
 tok:∀r e b k c,S r→A.tok r e b k c→B.tok r e b k c
mutual
theorem za2 {I:Imm} {A B:At} {S:Nat→Prop} (hA:At.leOn S A B):∀{v:V} {x:Value},(∀r∈v.ids,S r)→vr I A v x→vr I B v x
 |.bool _,_,_,h=> h
 |.int _ _,_,_,h=> h
 |.str _,_,_,h=> h
 |.nilp,_,_,h=> h
 |.ptr r o,x,hs,h=> by
  simp only[vr] at h⊢
  obtain⟨a,e,h⟩:=h
  exact⟨a,e,hA.ptr _ _ _ (hs r (by simp[V.ids])) h⟩
 |.iptr _,_,_,h=> by simp only[vr] at h⊢;exact h
 |.nils,_,_,h=> h
 |.ze,_,_,h=> h
 |.vs cs len sz own,x,hs,h=> by
  simp only[vr] at h⊢
  obtain⟨b,o,cap,e,h1,h2,h3,h4⟩:=h
  refine⟨b,o,cap,e,h1,h2,h3,?_⟩
  cases own with
  |tok r e=>
   rcases h4 with ⟨h,b',k',c',h'⟩|h
   ·exact .inl ⟨h,b',k',c',hA.tok _ _ _ _ _ (hs r (by simp[V.ids])) h'⟩
   ·exact .inr (hA.tok _ _ _ _ _ (hs r (by simp[V.ids])) h)
  |_=> exact h4
 |.hs r o l c s e,x,hs,h=> by
  simp only[vr] at h⊢
  obtain⟨a,n,e,h⟩:=h
  exact⟨a,n,e,hA.hs _ _ _ _ _ _ _ _ (hs r (by simp[V.ids])) h⟩
 |.nilm,_,_,h=> h
 |.map r,x,hs,h=> by
  simp only[vr] at h⊢
  obtain⟨b,e,h⟩:=h
  exact⟨b,e,hA.map _ _ (hs r (by simp[V.ids])) h⟩
 |.fn f a c,x,hs,h=> by
  simp only[vr] at h⊢
  obtain⟨f',a',c',e,h1,h2,h3⟩:=h
  refine⟨f',a',c',e,?_,zjn hA (fun r hr=> hs r ?_) h2,zjn hA (fun r hr=> hs r ?_) h3⟩
  ·cases f with
   |yield l=>
    cases f' with
    |yield l'=> exact hA.yld _ _ (hs l (by simp[V.ids])) h1
    |_=> exact h1
   |_=> exact h1
  ·simp only[V.ids];exact List.mem_append_right _ (List.mem_append_left _ hr)
  ·simp only[V.ids];exact List.mem_append_right _ (List.mem_append_right _ hr)
 |.nilf,_,_,h=> h
 |.iface t v,x,hs,h=> by
  simp only[vr] at h⊢
  obtain⟨y,e,h⟩:=h
  exact⟨y,e,za2 hA (fun r hr=> hs r (by simpa only[V.ids] using hr)) h⟩
 |.nilif,_,_,h=> h
 |.agg cs,x,hs,h=> by
  simp only[vr] at h⊢
  obtain⟨y,e,h⟩:=h
  exact⟨y,e,zjn hA (fun r hr=> hs r (by simpa only[V.ids] using hr)) h⟩
 |.tup cs,x,hs,h=> by
  simp only[vr] at h⊢
  obtain⟨y,e,h⟩:=h
  exact⟨y,e,zjn hA (fun r hr=> hs r (by simpa only[V.ids] using hr)) h⟩
theorem zjn {I:Imm} {A B:At} {S:Nat→Prop} (hA:At.leOn S A B):∀{vs:List V} {xs:List Value},(∀r∈V.idss vs,S r)→vrl I A vs xs→vrl I B vs xs
 |[],_,_,h=> h
 |v::vs,xs,hs,h=> by
  rw[vrl] at h⊢
  obtain⟨x,ys,e,h1,h2⟩:=h
  exact⟨x,ys,e,za2 hA (fun r hr=> hs r (by simp only[V.idss];exact List.mem_append_left _ hr)) h1,zjn hA (fun r hr=> hs r (by simp only[V.idss];exact List.mem_append_right _ hr)) h2⟩
end
theorem zzd:∀{vs:List V} {i:Nat} {v:V},vs[i]?=some v→∀r∈v.ids,r∈V.idss vs
 |[],i,v,h,_,_=> by simp at h
 |u::vs,0,v,h,r,hr=> by
  simp only[List.getElem?_cons_zero,Option.some.injEq] at h
  subst h
  simp only[V.idss];exact List.mem_append_left _ hr
 |u::vs,i+1,v,h,r,hr=> by
  simp only[List.getElem?_cons_succ] at h
  simp only[V.idss];exact List.mem_append_right _ (zzd h r hr)
theorem zDL {I:Imm} {A B:At} {S:Nat→Prop} (hA:At.leOn S A B):∀{l:List (V×V)} {es:List MapEntry},(∀r∈ZEC l,S r)→ZCZ I A l es→ZCZ I B l es
 |[],_,_,h=> h
 |(k,v)::l,es,hs,h=> by
  simp only[ZCZ] at h⊢
  obtain⟨e,es',q,h1,h2,h3⟩:=h
  refine⟨e,es',q,za2 hA (fun r hr=> hs r ?_) h1,za2 hA (fun r hr=> hs r ?_) h2,zDL hA (fun r hr=> hs r ?_) h3⟩
  ·simp only[ZEC];exact List.mem_append_left _ hr
  ·simp only[ZEC];exact List.mem_append_right _ (List.mem_append_left _ hr)
  ·simp only[ZEC];exact List.mem_append_right _ (List.mem_append_right _ hr)
theorem zyV:∀{l:List (V×V)} {r:Nat},r∈ZEC l↔∃p∈l,r∈p.1.ids∨r∈p.2.ids
 |[],r=> by simp[ZEC]
 |(a,b)::l,r=> by
  simp only[ZEC,List.mem_append,zyV (l:=l),List.mem_cons]
  constructor
  ·rintro(h|h|⟨p,hp,h⟩)
   ·exact⟨_,.inl rfl,.inl h⟩
   ·exact⟨_,.inl rfl,.inr h⟩
   ·exact⟨p,.inr hp,h⟩
  ·rintro⟨p,rfl|hp,h⟩
   ·rcases h with h|h
    ·exact .inl h
    ·exact .inr (.inl h)
   ·exact .inr (.inr ⟨p,hp,h⟩)
theorem zwK {I:Imm} {A B:At} {S:Nat→Prop} (hA:At.leOn S A B) {l:List (V×V)} {es:List MapEntry} (hs:∀r∈ZEC l,S r):ZEL I A l es→ZEL I B l es
 |⟨l',h,h1⟩=> ⟨l',h,zDL hA (fun r hr=> hs r (by obtain⟨p,hp,hq⟩:=zyV.1 hr;exact zyV.2 ⟨p,h.mem_iff.1 hp,hq⟩)) h1⟩
section
variable {g:G} {get:Nat→Blk} {N:Nat} {w:World}
theorem zN8 (h:WR g get N w) {nid:Nat} {rs:List Nat} (hn:nid≤N) (hr:∀r∈rs,r < nid) (hcl:∀r∈rs,(get r).plain=true∧∀i∈(get r).ids,i∈rs) {gi:Nat→Blk} (hi:∀j,j < nid→gi j=if j∈rs then get j else .resv):
 At.leOn (·∈rs) (g.at get N) (g.at gi nid)∧WR g gi nid w:=by
 have hin:∀r,r∈rs→gi r=get r:=fun r hrs=> by rw[hi r (hr r hrs),if_pos hrs]
 have hout:∀r,r < nid→r∉rs→gi r=.resv:=fun r hrn hrs=> by rw[hi r hrn,if_neg hrs]
 have hA:At.leOn (·∈rs) (g.at get N) (g.at gi nid):=by
  refine⟨?_,?_,?_,?_,?_⟩
  ·rintro r o x hs ⟨_,h2,h3⟩;exact⟨hr r hs,by rw[hin r hs];exact h2,h3⟩
  ·rintro r o l c s e x n hs ⟨_,h2,h3⟩;exact⟨hr r hs,by rw[hin r hs];exact h2,h3⟩
  ·rintro r x hs ⟨_,h2,h3⟩;exact⟨hr r hs,by rw[hin r hs];exact h2,h3⟩
  ·rintro r x hs ⟨_,h2,h3⟩;exact⟨hr r hs,by rw[hin r hs];exact h2,h3⟩
  ·rintro r e b k c hs ⟨_,h2,h3⟩;exact⟨hr r hs,by rw[hin r hs];exact h2,fun hw hq=> h3 hw (by rw[←hin r hs];exact hq)⟩
 refine⟨hA,h.imm,fun r hrn=> ?_,fun r r' hrn hrn' hl hl' hm=> ?_⟩
 ·by_cases hrs:r∈rs
  ·obtain⟨hp,hids⟩:=hcl r hrs
   rw[hin r hrs]
   have hb:=h.blk r (Nat.lt_of_lt_of_le hrn hn)
   cases hg:get r with
   |row k cs=>
    rw[hg] at hb hids
    obtain⟨c,el,h1,h2,h3,h4,h5⟩:=hb
    refine⟨c,el,h1,h2,h3,fun i v hv=> ?_,h5⟩
    obtain⟨x,q1,q2⟩:=h4 i v hv
    exact⟨x,q1,za2 hA (fun j hj=> hids j (zzd hv j hj)) q2⟩
   |tok hw=> rw[hg] at hb;exact hb
   |map es ver=>
    rw[hg] at hb hids
    obtain⟨ents,clock,h1,h2,h3⟩:=hb
    exact⟨ents,clock,h1,zwK hA (fun j hj=> hids j hj) h2,h3⟩
   |iter m ver left cur=>
    rw[hg] at hb hids
    cases m with
    |none=> exact hb
    |some m=>
     obtain⟨h1,h2,h3,since,seen,last,h4,h5,h6⟩:=hb
     have hm:m∈rs:=hids m (by simp[Blk.ids])
     refine⟨hr m hm,by rw[hin m hm];exact h2,h3,since,seen,last,h4,fun es ver' hq=> h5 es ver' (by rw[←hin m hm];exact hq),fun es hq=> ?_⟩
     obtain⟨ents,k1,k2,k3,k4⟩:=h6 es (by rw[←hin m hm];exact hq)
     refine⟨ents,k1,k2,zwK hA (fun j hj=> hids j ?_) k3,fun k v hc=> ?_⟩
     ·simp only[Blk.ids];exact List.mem_cons_of_mem _ (List.mem_append_left _ hj)
     ·obtain⟨stamp,en,q1,q2,q3,q4⟩:=k4 k v hc
      subst hc
      refine⟨stamp,en,q1,q2,za2 hA (fun j hj=> hids j ?_) q3,za2 hA (fun j hj=> hids j ?_) q4⟩
      ·simp only[Blk.ids];exact List.mem_cons_of_mem _ (List.mem_append_right _ (List.mem_append_left _ hj))
      ·simp only[Blk.ids];exact List.mem_cons_of_mem _ (List.mem_append_right _ (List.mem_append_right _ hj))
   |gone=> trivial
   |resv=> trivial
   |loop fn regs ps asg body pend st d=> rw[hg] at hp;cases hp
   |dfr=> rw[hg] at hp;cases hp
  ·rw[hout r hrn hrs];trivial
 ·have q1:r∈rs:=by
   rcases Classical.em (r∈rs) with q|q
   ·exact q
   ·rw[hout r hrn q] at hl;cases hl
  have q2:r'∈rs:=by
   rcases Classical.em (r'∈rs) with q|q
   ·exact q
   ·rw[hout r' hrn' q] at hl';cases hl'
  rw[hin r q1] at hl
  rw[hin r' q2] at hl'
  exact h.inj r r' (Nat.lt_of_lt_of_le hrn hn) (Nat.lt_of_lt_of_le hrn' hn) hl hl' hm
def ZEP (get get1:Nat→Blk) (rs:List Nat) (nid n1:Nat):Nat→Blk:=fun j=> if (nid≤j∧j < n1)∨j∈rs then get1 j else get j
def onG (g g1:G) (rs:List Nat) (nid n1:Nat):G where
 I:=g1.I
 mu j:=if (nid≤j∧j < n1)∨j∈rs then g1.mu j else g.mu j
 base j:=if (nid≤j∧j < n1)∨j∈rs then g1.base j else g.base j
 ts j:=if (nid≤j∧j < n1)∨j∈rs then g1.ts j else g.ts j
theorem zN6 (h:WR g get N w) {nid:Nat} {rs:List Nat} (hn:nid≤N) (hr:∀r∈rs,r < nid) {gi:Nat→Blk} (hi:∀j,j < nid→gi j=if j∈rs then get j else .resv)
 {g1:G} {get1:Nat→Blk} {n1:Nat} {w1:World} (h1:WR g1 get1 n1 w1) (e1:Ext g gi nid w g1 get1 n1 w1) (hf:ZDV get N nid (n1 - nid)) (hdom:∀j,j < nid→j∉rs→get1 j=.resv)
 (hkind:∀r∈rs,∀es ver,get1 r=.map es ver→∃es' ver',get r=.map es' ver'):
 (g1.at get1 n1).le ((onG g g1 rs nid n1).at (ZEP get get1 rs nid n1) (max N n1))∧
 WR (onG g g1 rs nid n1) (ZEP get get1 rs nid n1) (max N n1) w1∧Ext g get N w (onG g g1 rs nid n1) (ZEP get get1 rs nid n1) (max N n1) w1:=by
 have hn1:nid≤n1:=e1.n_le
 have hin:∀r,r∈rs→gi r=get r:=fun r hrs=> by rw[hi r (hr r hrs),if_pos hrs]
 have hout:∀r,r < nid→r∉rs→gi r=.resv:=fun r hrn hrs=> by rw[hi r hrn,if_neg hrs]
 have gG:∀j,((nid≤j∧j < n1)∨j∈rs)→ZEP get get1 rs nid n1 j=get1 j:=fun j hj=> if_pos hj
 have gN:∀j,¬((nid≤j∧j < n1)∨j∈rs)→ZEP get get1 rs nid n1 j=get j:=fun j hj=> if_neg hj
 have mG:∀j,((nid≤j∧j < n1)∨j∈rs)→(onG g g1 rs nid n1).mu j=g1.mu j∧(onG g g1 rs nid n1).base j=g1.base j∧(onG g g1 rs nid n1).ts j=g1.ts j:=fun j hj=> ⟨if_pos hj,if_pos hj,if_pos hj⟩
 have mN:∀j,¬((nid≤j∧j < n1)∨j∈rs)→(onG g g1 rs nid n1).mu j=g.mu j∧(onG g g1 rs nid n1).base j=g.base j∧(onG g g1 rs nid n1).ts j=g.ts j:=fun j hj=> ⟨if_neg hj,if_neg hj,if_neg hj⟩
 have hS:∀j,j < n1→get1 j≠.resv→(nid≤j∧j < n1)∨j∈rs:=fun j hj hne=> by
  rcases Nat.lt_or_ge j nid with hlt|hge
  ·rcases Classical.em (j∈rs) with q|q
   ·exact .inr q
   ·exact absurd (hdom j hlt q) hne
  ·exact .inl ⟨hge,hj⟩
 have hfirm:∀{b:Blk},b.firm=true→b≠.resv:=fun hb he=> by rw[he] at hb;cases hb
 have hlive:∀{b:Blk},b.live=true→b≠.resv:=fun hb he=> by rw[he] at hb;cases hb
 have hA:(g1.at get1 n1).le ((onG g g1 rs nid n1).at (ZEP get get1 rs nid n1) (max N n1)):=by
  refine⟨?_,?_,?_,?_,?_⟩
  ·rintro r o x ⟨q1,q2,q3⟩
   have hs:=hS r q1 (hfirm q2)
   exact⟨by omega,by rw[gG r hs];exact q2,by rw[(mG r hs).1,(mG r hs).2.1];exact q3⟩
  ·rintro r o l c s e x n ⟨q1,q2,q3⟩
   have hs:=hS r q1 (hfirm q2)
   exact⟨by omega,by rw[gG r hs];exact q2,by rw[(mG r hs).1,(mG r hs).2.1,(mG r hs).2.2];exact q3⟩
  ·rintro r x ⟨q1,q2,q3⟩
   have hs:=hS r q1 (hfirm q2)
   exact⟨by omega,by rw[gG r hs];exact q2,by rw[(mG r hs).1];exact q3⟩
  ·rintro r x ⟨q1,q2,q3⟩
   have hs:=hS r q1 (hfirm q2)
   exact⟨by omega,by rw[gG r hs];exact q2,by rw[(mG r hs).1];exact q3⟩
  ·rintro r e b k c ⟨q1,q2,q3⟩
   have hs:=hS r q1 q2
   refine⟨by omega,by rw[gG r hs];exact q2,fun hw hq=> ?_⟩
   rw[gG r hs] at hq
   rw[(mG r hs).1,(mG r hs).2.1,(mG r hs).2.2]
   exact q3 hw hq
 let U:Nat→Prop:=fun m=> ∃es ver,get m=.map es ver∧get1 m=.map es ver
 have hU:∀m,m∈rs→U m→w1.heap[g.mu m]?=w.heap[g.mu m]?∧g1.mu m=g.mu m∧g1.base m=g.base m∧g1.ts m=g.ts m∧get1 m=get m∧(get m).live=true∧∃o,w.heap[g.mu m]?=some o∧∀c e f,o≠.cells c e f:=by
  rintro m hm ⟨es,ver,q1,q2⟩
  have hgi:gi m=.map es ver:=by rw[hin m hm,q1]
  obtain⟨es',ver',r1,r2⟩:=e1.maps m (hr m hm) es ver hgi
  rw[q2] at r1
  cases r1
  have hh:w1.heap[g.mu m]?=w.heap[g.mu m]?:=by
   rcases r2 with r2|⟨_,_,r2⟩
   ·omega
   ·exact r2
  obtain⟨_,s2,s3,s4⟩:=e1.ids m (hr m hm) (by rw[hgi];rfl)
  have hb:=h.blk m (Nat.lt_of_lt_of_le (hr m hm) hn)
  rw[q1] at hb
  obtain⟨ents,clock,t1,_⟩:=hb
  exact⟨hh,s2,s3,s4,by rw[q1,q2],by rw[q1];rfl,_,t1,by simp⟩
 have hsplit:∀j,¬((j∈rs∧¬U j)∨(nid≤j∧j < n1))→(¬((nid≤j∧j < n1)∨j∈rs))∨(j∈rs∧U j):=fun j hj=> by
  rcases Classical.em (j∈rs) with q|q
  ·rcases Classical.em (U j) with u|u
   ·exact .inr ⟨q,u⟩
   ·exact absurd (.inl ⟨q,u⟩) hj
  ·exact .inl fun hh=> hh.elim (fun a=> hj (.inr a)) q
 have hCS:∀j,((j∈rs∧¬U j)∨(nid≤j∧j < n1))→(nid≤j∧j < n1)∨j∈rs:=fun j hj=> hj.elim (fun a=> .inr a.1) (fun a=> .inl a)
 have hnewresv:∀j,j < N→nid≤j∧j < n1→get j=.resv:=fun j hj hc=> hf.2 j hc.1 (by omega) hj
 refine⟨hA,WR.go (fun j=> (j∈rs∧¬U j)∨(nid≤j∧j < n1)) (fun b=> ∃r,r∈rs∧¬U r∧(get r).live=true∧g.mu r=b) h (Nat.le_max_left _ _) ?_ ?_ e1.size ?_ ?_ e1.I_le ?_ ?_ ?_ ?_ ?_ ?_ ?_ ?_ e1.tape e1.os e1.output ?_ ?_⟩
 ·intro j hj hc
  rcases hsplit j hc with q|⟨q,u⟩
  ·exact⟨gN j q,(mN j q).1,(mN j q).2.1,(mN j q).2.2⟩
  ·obtain⟨_,u2,u3,u4,u5,_⟩:=hU j q u
   have hs:(nid≤j∧j < n1)∨j∈rs:=.inr q
   exact⟨by rw[gG j hs,u5],by rw[(mG j hs).1,u2],by rw[(mG j hs).2.1,u3],by rw[(mG j hs).2.2,u4]⟩
 ·intro j a b;exact .inr ⟨by omega,by omega⟩
 ·intro b hb hd
  rcases Classical.em (g.img gi nid b) with hi'|hi'
  ·obtain⟨r,q1,q2,q3⟩:=hi'
   have hrs:r∈rs:=by
    rcases Classical.em (r∈rs) with q|q
    ·exact q
    ·rw[hout r q1 q] at q2;cases q2
   rw[hin r hrs] at q2
   rcases Classical.em (U r) with u|u
   ·rw[←q3];exact(hU r hrs u).1
   ·exact absurd ⟨r,hrs,u,q2,q3⟩ hd
  ·exact e1.frame b hb hi'
 ·rintro b hb ⟨r,q1,q2,q3,q4⟩
  exact⟨r,Nat.lt_of_lt_of_le (hr r q1) hn,.inl ⟨q1,q2⟩,q3,q4⟩
 ·intro b o x hx
  rcases e1.I_new b o x hx with a|a|⟨r,q1,q2,q3⟩
  ·exact .inl a
  ·exact .inr (.inl a)
  ·have hrs:r∈rs:=by
    rcases Classical.em (r∈rs) with q|q
    ·exact q
    ·rw[hout r q1 q] at q2;cases q2
   rw[hin r hrs] at q2
   rcases Classical.em (U r) with u|u
   ·obtain⟨u1,_,_,_,_,_,ob,u6,u7⟩:=hU r hrs u
    have:=zN0 h1 (b:=b) (ob:=ob) (by rw[←q3,u1,u6]) u7 o
    have hx:g1.I b o=some x:=hx
    rw[this] at hx;cases hx
   ·exact .inr (.inr ⟨r,hrs,u,q2,q3⟩)
 ·intro b o x hx _;exact h1.imm b o x hx
 ·intro j hj hc hfm
  rcases hc with ⟨q,_⟩|q
  ·have hs:(nid≤j∧j < n1)∨j∈rs:=.inr q
   obtain⟨s1,s2,s3,s4⟩:=e1.ids j (hr j q) (by rw[hin j q];exact hfm)
   exact⟨by rw[gG j hs];exact s1,by rw[(mG j hs).1,s2],by rw[(mG j hs).2.1,s3],by rw[(mG j hs).2.2,s4]⟩
  ·rw[hnewresv j hj q] at hfm;cases hfm
 ·intro j hj hc hk
  rcases hc with ⟨q,_⟩|q
  ·rw[gG j (.inr q)];exact e1.kept j (hr j q) (by rw[hin j q];exact hk)
  ·exact absurd (hnewresv j hj q) hk
 ·intro j hj hc hw hw' a1 a2
  rcases hc with ⟨q,_⟩|q
  ·have hs:(nid≤j∧j < n1)∨j∈rs:=.inr q
   rw[gG j hs] at a2
   rw[(mG j hs).1,(mG j hs).2.1,(mG j hs).2.2]
   exact e1.toks j (hr j q) hw hw' (by rw[hin j q];exact a1) a2
  ·rw[hnewresv j hj q] at a1;cases a1
 ·intro j hj hc hl
  have hs:=hCS j hc
  rw[gG j hs] at hl
  rw[(mG j hs).1]
  rcases Nat.lt_or_ge (g1.mu j) w.heap.size with hlt|hge
  ·have hj1:j < n1:=hs.elim (fun a=> a.2) (fun a=> Nat.lt_of_lt_of_le (hr j a) hn1)
   obtain⟨r0,q1,q2,q3⟩:=e1.back _ hlt ⟨j,hj1,hl,rfl⟩
   have hrs:r0∈rs:=by
    rcases Classical.em (r0∈rs) with q|q
    ·exact q
    ·rw[hout r0 q1 q] at q2;cases q2
   rw[hin r0 hrs] at q2
   rcases Classical.em (U r0) with u|u
   ·obtain⟨_,u2,_,_,u5,u6,_⟩:=hU r0 hrs u
    have hjr:j=r0:=h1.inj j r0 hj1 (Nat.lt_of_lt_of_le q1 hn1) hl (by rw[u5];exact u6) (by rw[u2,q3])
    subst hjr
    rcases hc with ⟨_,c2⟩|c2
    ·exact absurd u c2
    ·omega
   ·exact .inr ⟨r0,Nat.lt_of_lt_of_le q1 hn,.inl ⟨hrs,u⟩,q2,q3⟩
  ·exact .inl hge
 ·intro j j' hj hj' hc hc' hl hl' hm
  have hs:=hCS j hc
  have hs':=hCS j' hc'
  rw[gG j hs] at hl
  rw[gG j' hs'] at hl'
  rw[(mG j hs).1,(mG j' hs').1] at hm
  exact h1.inj j j' (hs.elim (fun a=> a.2) (fun a=> Nat.lt_of_lt_of_le (hr j a) hn1)) (hs'.elim (fun a=> a.2) (fun a=> Nat.lt_of_lt_of_le (hr j' a) hn1)) hl hl' hm
 ·intro r m ver left cur hrN hc hg hcm es ver' hem
  rcases hcm with ⟨q,u⟩|q
  ·rw[gG m (.inr q)] at hem
   obtain⟨es0,ver0,h0⟩:=hkind m q es ver' hem
   have hv:=zzh h hrN hg h0
   obtain⟨es2,ver2,r1,r2⟩:=e1.maps m (hr m q) es0 ver0 (by rw[hin m q];exact h0)
   rw[hem] at r1
   cases r1
   rcases r2 with r2|⟨rfl,rfl,_⟩
   ·omega
   ·exact absurd ⟨_,_,h0,hem⟩ u
  ·have hbl:=h.blk r hrN
   rw[hg] at hbl
   obtain⟨m1,m2,_⟩:=hbl
   rw[hnewresv m m1 q] at m2;cases m2
 ·intro e j hj hc
  have hs:=hCS j hc
  have hj1:j < n1:=hs.elim (fun a=> a.2) (fun a=> Nat.lt_of_lt_of_le (hr j a) hn1)
  obtain⟨m1,m2,m3⟩:=mG j hs
  rw[gG j hs]
  have hb:=h1.blk j hj1
  cases hg:get1 j with
  |row k cs=>
   rw[hg] at hb
   obtain⟨c,el,a1,a2,a3,a4,a5⟩:=hb
   refine⟨c,el,by rw[m1];exact a1,by rw[m3];exact a2,by rw[m2];exact a3,fun i v hv=> ?_,fun o ho=> by rw[m1];rw[m2] at ho;exact a5 o ho⟩
   obtain⟨x,q1,q2⟩:=a4 i v hv
   exact⟨x,by rw[m2];exact q1,Qv (Imm.le_refl _) hA q2⟩
  |tok hw=>
   rw[hg] at hb
   obtain⟨c,el,a1,a2,a3,a5⟩:=hb
   exact⟨c,el,by rw[m1];exact a1,by rw[m3];exact a2,by rw[m2];exact a3,fun o ho=> by rw[m1];rw[m2] at ho;exact a5 o ho⟩
  |map es ver=>
   rw[hg] at hb
   obtain⟨ents,clock,a1,a2,a3⟩:=hb
   exact⟨ents,clock,by rw[m1];exact a1,zkK (Imm.le_refl _) hA a2,a3⟩
  |iter m ver left cur=>
   rw[hg] at hb
   cases m with
   |none=>
    obtain⟨a1,a2⟩:=hb
    exact⟨by rw[m2];exact a1,by rw[m1];exact a2⟩
   |some m=>
    obtain⟨a1,a2,a3,since,seen,last,a4,a5,a6⟩:=hb
    have hsm:=hS m a1 (hfirm a2)
    refine⟨by omega,by rw[gG m hsm];exact a2,by rw[m2];exact a3,since,seen,last,by rw[m1,(mG m hsm).1];exact a4,fun es ver' hq=> a5 es ver' (by rw[←gG m hsm];exact hq),fun es hq=> ?_⟩
    obtain⟨ents,k1,k2,k3,k4⟩:=a6 es (by rw[←gG m hsm];exact hq)
    refine⟨ents,by rw[(mG m hsm).1];exact k1,k2,zkK (Imm.le_refl _) hA k3,fun k v hc=> ?_⟩
    obtain⟨stamp,en,q1,q2,q3,q4⟩:=k4 k v hc
    exact⟨stamp,en,q1,q2,Qv (Imm.le_refl _) hA q3,Qv (Imm.le_refl _) hA q4⟩
  |loop fn regs ps asg body pend st d=>
   rw[hg] at hb
   obtain⟨L,a1,a2,a3,a5,a6,a7,a8,a9,a10,a11⟩:=hb
   have hsd:=hS d a9 (hfirm a10)
   exact⟨L,by rw[m1];exact a1,a2,a3,a5,a6,a7,a8.mono (Imm.le_refl _) hA,by omega,by rw[gG d hsd];exact a10,by rw[(mG d hsd).1];exact a11⟩
  |dfr=> rw[hg] at hb;exact(by rw[m1];exact hb:w1.heap[(onG g g1 rs nid n1).mu j]?=some (.deferred (some [])))
  |gone=> trivial
  |resv=> trivial
 ·intro j hj hc es ver hg
  rcases hc with ⟨q,_⟩|q
  ·rw[gG j (.inr q)];exact e1.maps j (hr j q) es ver (by rw[hin j q];exact hg)
  ·rw[hnewresv j hj q] at hg;cases hg
end
end
section
variable {P:Program}
theorem zjy (h:H):∀(k n:Nat),(h.from k n).length=k∧∀j,j < k→(h.from k n).getD j .gone=h.get (n+j)
 |0,n=> ⟨rfl,fun j hj=> by omega⟩
 |k+1,n=> by
  obtain⟨h1,h2⟩:=zjy h k (n+1)
  refine⟨by show(h.get n::h.from k (n+1)).length=_;rw[List.length_cons,h1],fun j hj=> ?_⟩
  cases j with
  |zero=> rfl
  |succ j=>
   show(h.from k (n+1)).getD j .gone=_
   rw[h2 j (by omega),show n+1+j=n+(j+1) by omega]
theorem zbZ:∀(l:List (Nat×Blk)) (get:Nat→Blk) (j:Nat),(j∉l.map (·.1)→ZDs get l j=get j)∧(j∈l.map (·.1)→∀get',ZDs get l j=ZDs get' l j)
 |[],get,j=> ⟨fun _=> rfl,fun h=> by simp at h⟩
 |(r,b)::l,get,j=> by
  obtain⟨h1,h2⟩:=zbZ l (upd get r b) j
  refine⟨fun h=> ?_,fun h get'=> ?_⟩
  ·simp only[List.map_cons,List.mem_cons,not_or] at h
   show ZDs (upd get r b) l j=_
   rw[h1 h.2,J7 _ _ h.1]
  ·show ZDs (upd get r b) l j=ZDs (upd get' r b) l j
   by_cases hj:j∈l.map (·.1)
   ·exact h2 hj _
   ·rw[h1 hj,(zbZ l (upd get' r b) j).1 hj]
    simp only[List.map_cons,List.mem_cons] at h
    rcases h with rfl|h
    ·rw[zG,zG]
    ·exact absurd h hj
theorem zC9 (f:Nat→Blk):∀(l:List (Nat×Blk)) (get:Nat→Blk) (j:Nat),(∀p∈l,p.2=f p.1)→j∈l.map (·.1)→ZDs get l j=f j
 |[],_,_,_,h=> by simp at h
 |(r,b)::l,get,j,hf,h=> by
  show ZDs (upd get r b) l j=_
  by_cases hj:j∈l.map (·.1)
  ·exact zC9 f l _ j (fun p hp=> hf p (List.mem_cons_of_mem _ hp)) hj
  ·rw[(zbZ l _ j).1 hj]
   simp only[List.map_cons,List.mem_cons] at h
   rcases h with rfl|h
   ·rw[zG];exact hf _ List.mem_cons_self
   ·exact absurd h hj
theorem zDw {hint:Hint} {known:Known} {E:Ev} {f:FuncId} {args:List V} {n:Nat} {es:List Eff} (h:ZC3 hint known E f args n=some es):∀e∈es,e.wr=[]∧e.rd=[]:=by
 have hre:∀{h1:H} {v:V} {e:Eff},ZD3 n h1 v=some e→e.wr=[]∧e.rd=[]:=by
  intro h1 v e he
  unfold ZD3 at he
  split at he
  ·split at he
   ·split at he
    ·obtain rfl:=Option.some.inj he;exact⟨rfl,rfl⟩
    ·obtain rfl:=Option.some.inj he;exact⟨rfl,rfl⟩
   ·obtain rfl:=Option.some.inj he;exact⟨rfl,rfl⟩
  ·split at he
   ·split at he
    ·split at he
     ·obtain rfl:=Option.some.inj he;exact⟨rfl,rfl⟩
     ·obtain rfl:=Option.some.inj he;exact⟨rfl,rfl⟩
    ·obtain rfl:=Option.some.inj he;exact⟨rfl,rfl⟩
   ·cases he
  ·split at he
   ·split at he
    ·split at he
     ·obtain rfl:=Option.some.inj he;exact⟨rfl,rfl⟩
     ·obtain rfl:=Option.some.inj he;exact⟨rfl,rfl⟩
    ·obtain rfl:=Option.some.inj he;exact⟨rfl,rfl⟩
   ·cases he
  ·split at he
   ·obtain rfl:=Option.some.inj he;exact⟨rfl,rfl⟩
   ·cases he
 unfold ZC3 at h
 split at h
 ·obtain rfl:=Option.some.inj h
  intro e he;rw[Qb he];exact⟨rfl,rfl⟩
 ·split at h
  ·split at h
   ·rename_i es0 ha
    obtain rfl:=Option.some.inj h
    have hall:∀e∈es0,e.wr=[]∧e.rd=[]:=by
     intro e he
     obtain⟨r,_,hl⟩:=zkB ha e he
     unfold ZE0 at hl
     split at hl
     ·split at hl
      ·obtain rfl:=Option.some.inj hl;exact⟨rfl,rfl⟩
      ·split at hl
       ·rename_i e' hr
        obtain rfl:=Option.some.inj hl;exact hre hr
       ·obtain rfl:=Option.some.inj hl;exact⟨rfl,rfl⟩
     ·split at hl
      ·obtain rfl:=Option.some.inj hl;exact⟨rfl,rfl⟩
      ·cases hl
    intro e he
    refine hall e ?_
    unfold oneOf at he
    split at he
    ·split at he
     ·rw[Qb he];exact List.mem_cons_self
     ·exact he
    ·exact he
   ·cases h
  ·cases h
section
variable {hint:Hint} {known:Known} {E:Ev}
theorem zYa {fn:FuncId} {o:Oper} {regs regs':T V} (h:agree o.op.operands.toList regs regs') (get:Nat→Blk) (n:Nat):(opD P hint known fn o).run E regs get n=(opD P hint known fn o).run E regs' get n:=by
 unfold opD
 split
 ·rename_i c ho
  split
  ·simp only
   rw[ho]
   rw[ho] at h
   exact zDQ _ _ h get n
  ·simp only
   rw[ho] at h
   rw[zPO c h]
 ·exact zDQ _ _ h get n
theorem zwG {get:Nat→Blk} {n:Nat} {f:FuncId} {args:List V} {e:Eff} (hp:V.pures (V.seals args)=false) (h:ZDd hint known E get n (some (.func f args))=some e):
 ∃rs v h1,reach get 1000 (V.idss args) []=some rs∧(∀r∈rs,r < n)∧n < 2 ^ 20∧E.call f args (H.only get n rs)=some [(.ret v,h1)]∧n≤h1.n∧(∀r∈h1.dirty,n≤r∨r∈rs)∧
  (∀r∈rs,∀es ver,h1.get r=.map es ver→∃es' ver',get r=.map es' ver')∧e={v,rd:=rs,wr:=(rs.filter h1.dirty.contains).map fun r=> (r,h1.get r),nw:=h1.from (h1.n - n) n}:=by
 simp only[ZDd] at h
 rw[hp] at h
 simp only[Bool.false_eq_true,if_false] at h
 split at h
 ·rename_i rs hrs
  split at h
  ·rename_i hc
   rw[Bool.and_eq_true,List.all_eq_true] at hc
   split at h
   ·rename_i v h1 hcall
    split at h
    ·rename_i hc2
     rw[Bool.and_eq_true,Bool.and_eq_true,List.all_eq_true,List.all_eq_true] at hc2
     refine⟨rs,v,h1,hrs,fun r hr=> Nat.le_of_ble_eq_true (hc.1 r hr),Nat.le_of_ble_eq_true hc.2,hcall,Nat.le_of_ble_eq_true hc2.1.1,fun r hr=> ?_,fun r hr es ver he=> ?_,(Option.some.inj h).symm⟩
     ·have:=hc2.1.2 r hr
      rw[Bool.or_eq_true] at this
      exact this.imp Nat.le_of_ble_eq_true (fun hh=> by simpa using hh)
     ·have:=hc2.2 r hr
      rw[he] at this
      unfold kindOk at this
      simp only at this
      split at this
      ·rename_i es' ver' hg;exact⟨es',ver',hg⟩
      ·cases this
    ·cases h
   ·cases h
  ·cases h
 ·cases h
theorem zOd {fn:FuncId} {o:Oper} {regs:T V} {get get':Nat→Blk} {n:Nat} {e:Eff} (h:(opD P hint known fn o).run E regs get n=some e) (hg:∀r∈e.rd,get' r=get r):(opD P hint known fn o).run E regs get' n=some e:=by
 have hc:∀c,ZDd hint known E get n c=some e→ZDd hint known E get' n c=some e:=by
  intro c h
  cases c with
  |none=> cases h
  |some c=>
   cases c with
   |round l args=> cases h
   |func f args=>
    cases hp:V.pures (V.seals args) with
    |true=>
     simp only[ZDd,hp,if_true] at h⊢;exact h
    |false=>
     obtain⟨rs,v,h1,a1,a2,a3,a4,a5,a6,a7,rfl⟩:=zwG hp h
     have hre:=zCT 1000 a1 (get':=get') hg
     have hon:=zN9 (n:=n) (rs:=rs) (get:=get) (get':=get') hg
     simp only[ZDd] at h⊢
     rw[hp] at h⊢
     simp only[Bool.false_eq_true,if_false] at h⊢
     rw[hre]
     rw[a1] at h
     simp only at h⊢
     rw[hon]
     rw[a4] at h⊢
     simp only at h⊢
     have hk:(rs.all fun r=> kindOk (h1.get r) (get' r))=(rs.all fun r=> kindOk (h1.get r) (get r)):=by
      rw[Bool.eq_iff_iff,List.all_eq_true,List.all_eq_true]
      constructor
      ·intro q r hr;have:=q r hr;rw[hg r hr] at this;exact this
      ·intro q r hr;have:=q r hr;rw[hg r hr];exact this
     rw[hk]
     exact h
 unfold opD at h⊢
 split at h
 ·split at h
  ·exact(zkO _ _ _).get get n e h get' hg
  ·exact hc _ h
 ·exact(zkO _ _ _).get get n e h get' hg
theorem zCD {fn:FuncId} {o:Oper} {regs:T V} {get:Nat→Blk} {n:Nat} {e:Eff} (h:(opD P hint known fn o).run E regs get n=some e):∀p∈e.wr,p.1∈e.rd∧get p.1≠.resv∧(p.1 < n∨get p.1≠.gone):=by
 have hx:∀hm,(exec P hm o.op).run regs get n=some e→∀p∈e.wr,p.1∈e.rd∧get p.1≠.resv∧(p.1 < n∨get p.1≠.gone):=by
  intro hm h p hp
  obtain⟨h1,h2⟩:=(zkO hm o.op regs).wr get n e h p hp
  exact⟨h1,fun hh=> (by rw[hh] at h2;cases h2),.inr fun hh=> (by rw[hh] at h2;cases h2)⟩
 have hc:∀c,ZDd hint known E get n c=some e→∀p∈e.wr,p.1∈e.rd∧get p.1≠.resv∧(p.1 < n∨get p.1≠.gone):=by
  intro c h p hp
  cases c with
  |none=> cases h
  |some c=>
   cases c with
   |round l args=> cases h
   |func f args=>
    cases hpu:V.pures (V.seals args) with
    |true=>
     simp only[ZDd,hpu,if_true] at h
     split at h
     ·rename_i e' hcp
      have hpan:e'.pan=false:=by cases hq:e'.pan with|false=> rfl|true=> rw[hq] at h;cases h
      rw[hpan] at h
      simp only[Bool.false_eq_true,if_false] at h
      obtain rfl:=Option.some.inj h
      rw[(zDw hcp e' (List.mem_singleton.2 rfl)).1] at hp
      cases hp
     ·cases h
    |false=>
     obtain⟨rs,v,h1,a1,a2,a3,a4,a5,a6,a7,rfl⟩:=zwG hpu h
     obtain⟨r,hr,rfl⟩:=List.mem_map.1 hp
     have hrs:=(List.mem_filter.1 hr).1
     refine⟨hrs,fun hh=> ?_,.inl (a2 r hrs)⟩
     rcases(zjk 1000 a1).2.2 r hrs with hq|⟨hq,_⟩
     ·cases hq
     ·rw[hh] at hq;cases hq
 unfold opD at h
 split at h
 ·split at h
  ·exact hx _ h
  ·exact hc _ h
 ·exact hx _ h
theorem zYb {fn:FuncId} {o:Oper} {regs:T V} {get:Nat→Blk} {n:Nat} {e:Eff} (h:(opD P hint known fn o).run E regs get n=some e):∀r∈e.rd,r < n∨get r≠.gone:=by
 have hx:∀hm,(exec P hm o.op).run regs get n=some e→∀r∈e.rd,r < n∨get r≠.gone:=by
  intro hm h r hr
  exact .inr (((zkO hm o.op regs).rd get n e h r hr).resolve_left (by simp))
 have hc:∀c,ZDd hint known E get n c=some e→∀r∈e.rd,r < n∨get r≠.gone:=by
  intro c h r hr
  cases c with
  |none=> cases h
  |some c=>
   cases c with
   |round l args=> cases h
   |func f args=>
    cases hpu:V.pures (V.seals args) with
    |true=>
     simp only[ZDd,hpu,if_true] at h
     split at h
     ·rename_i e' hcp
      have hpan:e'.pan=false:=by cases hq:e'.pan with|false=> rfl|true=> rw[hq] at h;cases h
      rw[hpan] at h
      simp only[Bool.false_eq_true,if_false] at h
      obtain rfl:=Option.some.inj h
      rw[(zDw hcp e' (List.mem_singleton.2 rfl)).2] at hr
      cases hr
     ·cases h
    |false=>
     obtain⟨rs,v,h1,a1,a2,a3,a4,a5,a6,a7,rfl⟩:=zwG hpu h
     exact .inl (a2 r hr)
 unfold opD at h
 split at h
 ·split at h
  ·exact hx _ h
  ·exact hc _ h
 ·exact hx _ h
theorem zQO {get:Nat→Blk} {n nid k:Nat} (h:ZDV get n nid (k+1)):ZDc get n nid:=⟨h.1,fun hh=> h.2 nid (Nat.le_refl _) (by omega) hh⟩
theorem zDF {o:Oper} {a:Act} {g:G} {get:Nat→Blk} {n:Nat} {w:World} {nid:Nat} {e:Eff} (h:ZDn P o a g get n w nid e):∃x w',Gives P o a w x w'∧ZDH g get n w nid e x w':=by
 obtain⟨x,w',g',h1,h2,h3,h4⟩:=h
 exact⟨x,w',h1,g',h2,h3,h4⟩
theorem zYc (hE:EvOk P E) (hG:EvGrow E) (hK:KnOk P known) {fn:FuncId} {o:Oper} {regs:T V} {get:Nat→Blk} {nid:Nat} {e:Eff} (h:(opD P hint known fn o).run E regs get nid=some e)
 {g:G} {N:Nat} {w:World} {a:Act} (hW:WR g get N w) (hR:RR g.I (g.at get N) regs a.tmps) (hn:nid≤N) (hf:ZDV get N nid e.nw.length) {r:Option Nat} {K:Act→World→Prop} {Q:Exit→Act→World→Prop}
 (hk:∀x w',ZDH g get N w nid e x w'→K (a.put o.dst x) w'):o.wpIn (ZC7 g r) 0 P a w K Q:=by
 have hx:∀hm,(exec P hm o.op).run regs get nid=some e→o.wpIn (ZC7 g r) 0 P a w K Q:=by
  intro hm h
  have hnd:∀c,o.op≠.defer c:=fun c hh=> by rw[hh] at h;cases h
  have hl:=zkO (P:=P) hm o.op regs
  cases hnw:e.nw with
  |nil=>
   have h':=hl.nid get nid e h hnw N
   obtain⟨x,w',h1,g',h2,h3,h4⟩:=zDF (zyW hW (nid:=N) ⟨Nat.le_refl _,fun hh=> absurd hh (Nat.lt_irrefl _)⟩ hR h')
   refine zy7 hnd h1 (hk x w' ⟨g',?_,?_,?_⟩)
   ·have e1:e.upd get N=e.upd get nid:=by unfold Eff.upd;rw[hnw];rfl
    have e2:e.top N N=e.top N nid:=by unfold Eff.top;rw[hnw]
    rw[e1,e2] at h2;exact h2
   ·have e1:e.upd get N=e.upd get nid:=by unfold Eff.upd;rw[hnw];rfl
    have e2:e.top N N=e.top N nid:=by unfold Eff.top;rw[hnw]
    rw[e1,e2] at h3;exact h3
   ·have e1:e.upd get N=e.upd get nid:=by unfold Eff.upd;rw[hnw];rfl
    have e2:e.top N N=e.top N nid:=by unfold Eff.top;rw[hnw]
    rw[e1,e2] at h4;exact h4
  |cons b l=>
   rw[hnw] at hf
   obtain⟨x,w',h1,h2⟩:=zDF (zyW hW (zQO hf) hR h)
   exact zy7 hnd h1 (hk x w' h2)
 have hc:∀c,o.op=.call c→ZDd hint known E get nid ((ZDu P c).run regs)=some e→o.wpIn (ZC7 g r) 0 P a w K Q:=by
  intro c ho h
  cases hcal:(ZDu P c).run regs with
  |none=> rw[hcal] at h;cases h
  |some t=>
   rw[hcal] at h
   cases t with
   |round l args=> cases h
   |func f args=>
    cases hpu:V.pures (V.seals args) with
    |true=>
     simp only[ZDd,hpu,if_true] at h
     split at h
     ·rename_i e' hcp
      have hpan:e'.pan=false:=by cases hq:e'.pan with|false=> rfl|true=> rw[hq] at h;cases h
      rw[hpan] at h
      simp only[Bool.false_eq_true,if_false] at h
      obtain rfl:=Option.some.inj h
      have hb:ZDj P f:=by
       unfold ZC3 at hcp
       split at hcp
       ·rename_i v hv;exact hK.body _ _ _ hv
       ·split at hcp
        ·rename_i outs ho;exact(hE.call _ _ _ _ ho).1
        ·cases hcp
      obtain⟨xs,h1,h2⟩:=zwI (w:=w) ho hR hcal hb
      refine zwJ ho h1 (zkI hK.ok (fun f args outs ho=> (hE.call _ _ _ _ ho).2) hcp hpu hW (zaW h2) (fun e'' he=> by rw[Qb he];exact hf)) ?_
      rintro en w' ⟨x,e'',he,hen,hl⟩
      rw[Qb he] at hl hen
      rw[hpan] at hen
      exact⟨false,x,hen,hk x w' hl⟩
     ·cases h
    |false=>
     obtain⟨rs,v,h1,a1,a2,a3,a4,a5,a6,a7,rfl⟩:=zwG hpu h
     obtain⟨hb,hok⟩:=hE.call _ _ _ _ a4
     have hgrow:=hG.call _ _ _ _ a4 _ (List.mem_singleton.2 rfl)
     obtain⟨xs,c1,c2⟩:=zwI (w:=w) ho hR hcal hb
     obtain⟨_,s2,s3⟩:=zjk 1000 a1
     have hcl:∀r∈rs,(get r).plain=true∧∀i∈(get r).ids,i∈rs:=fun r hr=> (s3 r hr).resolve_left (by simp)
     obtain⟨o1,o2,o3⟩:=zyj (get:=get) a3 a2
     obtain⟨hA,hWi⟩:=zN8 hW hn a2 hcl o3
     have hnw:(h1.from (h1.n - nid) nid).length=h1.n - nid:=(zjy h1 _ _).1
     rw[show({v:=v,rd:=rs,wr:=(rs.filter h1.dirty.contains).map fun r=> (r,h1.get r),nw:=h1.from (h1.n - nid) nid}:Eff).nw.length=h1.n - nid from hnw] at hf
     refine zwJ ho c1 (hok g xs w o1 ?_ ?_) ?_
     ·rw[o2];exact hWi
     ·rw[o2];exact zjn hA (fun r hr=> s2 r hr) c2
     ·rintro en w' ⟨x,p,hp,hen,g1,q1,q2,q3,q4⟩
      obtain rfl:=Qb hp
      rw[o2] at q3
      have hwf:=hgrow.wf o1
      have hstay:∀j,j < nid→j∉h1.dirty→h1.get j=(H.only get nid rs).get j:=fun j hj hd=> hgrow.get o1 j (by rw[o2];exact hj) hd
      have hdom:∀j,j < nid→j∉rs→h1.get j=.resv:=fun j hj hjr=> by
       rw[hstay j hj,o3 j hj,if_neg hjr]
       intro hd
       rcases a6 j hd with hh|hh
       ·omega
       ·exact hjr hh
      obtain⟨b1,b2,b3⟩:=zN6 hW hn a2 o3 q2 q3 hf hdom a7
      have hget:ZEP get h1.get rs nid h1.n=Eff.upd {v:=v,rd:=rs,wr:=(rs.filter h1.dirty.contains).map fun r=> (r,h1.get r),nw:=h1.from (h1.n - nid) nid} get nid:=by
       funext j
       unfold ZEP Eff.upd
       rw[zdc,hnw]
       by_cases hj:nid≤j∧j < h1.n
       ·rw[if_pos (.inl hj),if_pos (by omega),(zjy h1 _ _).2 _ (by omega),show nid+(j - nid)=j by omega]
       ·rw[if_neg (c:=nid≤j∧j < nid+(h1.n - nid)) (by omega)]
        by_cases hjr:j∈rs
        ·rw[if_pos (.inr hjr)]
         by_cases hd:j∈h1.dirty
         ·rw[zC9 h1.get _ _ _ (fun p hp=> by obtain⟨r,_,rfl⟩:=List.mem_map.1 hp;rfl)]
          rw[List.map_map]
          exact List.mem_map.2 ⟨j,List.mem_filter.2 ⟨hjr,by simpa using hd⟩,rfl⟩
         ·rw[(zbZ _ _ _).1,hstay j (a2 j hjr) hd,o3 j (a2 j hjr),if_pos hjr]
          rw[List.map_map]
          intro hm
          obtain⟨r,hr,hre⟩:=List.mem_map.1 hm
          obtain rfl:r=j:=hre
          have:=(List.mem_filter.1 hr).2
          exact hd (by simpa using this)
        ·rw[if_neg (fun hh=> hh.elim hj hjr),(zbZ _ _ _).1]
         rw[List.map_map]
         intro hm
         obtain⟨r,hr,hre⟩:=List.mem_map.1 hm
         obtain rfl:r=j:=hre
         exact hjr (List.mem_filter.1 hr).1
      have htop:max N h1.n=Eff.top {v:=v,rd:=rs,wr:=(rs.filter h1.dirty.contains).map fun r=> (r,h1.get r),nw:=h1.from (h1.n - nid) nid} N nid:=by
       unfold Eff.top
       cases hl:h1.from (h1.n - nid) nid with
       |nil=> rw[hl] at hnw;simp only[List.length_nil] at hnw;simp only;omega
       |cons b l=> rw[hl] at hnw;simp only;rw[hnw];congr 1;omega
      refine⟨false,x,hen,hk x w' ⟨onG g g1 rs nid h1.n,?_,?_,?_⟩⟩
      ·rw[←hget,←htop];exact b2
      ·rw[←hget,←htop];exact b3
      ·rw[←hget,←htop];exact Qv (Imm.le_refl _) b1 q4
 unfold opD at h
 split at h
 ·rename_i c ho
  split at h
  ·exact hx _ h
  ·exact hc c ho h
 ·exact hx _ h
end
end
end
end Go.Ae
end
