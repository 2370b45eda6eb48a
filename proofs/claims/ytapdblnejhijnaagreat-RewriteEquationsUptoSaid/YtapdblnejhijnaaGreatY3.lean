/- Symbolic runs: calls, contracts, ranges over functions. -/
import Derived.Test.YtapdblnejhijnaaGreatY2
set_option linter.all false
noncomputable section
namespace Go.Ae
section
section
inductive PK where
 |one (k:K)
 |ag (ks:List K)
 |tt (b:Bool)
 |fc (f:Nat)
 |ci (k:IntKind) (n:Int)
inductive RK where
 |one (p:PK)
 |tup (ps:List PK)
section
variable (P:Program) (KD:TypeId→Bool→List K)
def ZKO:PK→V→Prop
 |.one k,v=> TK P KD k v
 |.ag ks,v=> ∃cs,v=.agg cs∧TKs P KD ks cs
 |.tt b,v=> v=.bool b
 |.fc f,v=> v=.fn (.func f) [] []
 |.ci k n,v=> v=.int k n
def ZKz:List PK→List V→Prop
 |[],[]=> True
 |p::ps,v::vs=> ZKO P KD p v∧ZKz ps vs
 |_,_=> False
def ZLh:RK→V→Prop
 |.one p,v=> ZKO P KD p v
 |.tup ps,v=> ∃vs,v=.tup vs∧ZKz P KD ps vs
def ZMC (v:V):Prop:=(∀cs,v=.agg cs→V.pures cs=true)∧∀w vs,v=.tup (w::vs)→(V.pures vs=true∨((∃as,w=.agg as)∧∃cs n sz o,vs=[.vs cs n sz o]))∧∀cs,w=.agg cs→V.pures cs=true
theorem Z1q {v:V} (h:V.pure v=true):ZMC v:=by
 refine⟨fun cs hv=> by rw[hv] at h;exact h,fun w vs hv=> ?_⟩
 rw[hv] at h
 have h:(V.pure w && V.pures vs)=true:=h
 rw[Bool.and_eq_true] at h
 exact⟨Or.inl h.2,fun cs hw=> by rw[hw] at h;exact h.1⟩
theorem ZTd {cs:List V} {n sz:Nat} {o:Own}:ZMC (.vs cs n sz o):=⟨fun _ hv=> (by cases hv),fun _ _ hv=> by cases hv⟩
theorem ZTc {cs:List V} {n sz:Nat} {o:Own} {vs:List V} (h:V.pures vs=true):ZMC (.tup (.vs cs n sz o::vs)):=⟨fun _ hv=> (by cases hv),fun _ _ hv=> by cases hv;exact⟨Or.inl h,fun _ hw=> by cases hw⟩⟩
structure GoodE (e:Eff):Prop where
 pan:e.pan=false
 rd:e.rd=[]
 wr:e.wr=[]
 nw:e.nw=[]∨∃k,e.nw=[.tok k]
 left:ZMC e.v
def ZEY:V→V
 |.vs cs n sz _=> .vs cs n sz .lock
 |v=> v
def ZKp:V→V
 |.agg cs=> .agg (cs.map ZEY)
 |v=> ZEY v
def ZFf:V→V
 |.tup vs=> .tup (vs.map ZKp)
 |v=> ZKp v
def vns (l:List V):List V:=l.map ZFf
def ZK6 (post:Option (List V→Prop)) (args:List V) (v:V):Prop:=
 match post with
 |none=> True
 |some Q=> Q (vns (args++[v]))
def cellC (v:V) (c:Nat):V:=match v with
 |.agg cs=> cs.getD c ZmM
 |v=> v
def ZKx (v:V) (j:Nat):V:=match v with
 |.tup vs=> vs.getD j ZmM
 |v=> v
inductive RQ where
 |z
 |v (i j c:Nat)
 |l (i j c:Nat)
 |r (i j c:Nat)
def RQ.val (xs:List V):RQ→Int
 |.z=> 0
 |.v i j c=> V.intN (cellC (ZKx (xs.getD i ZmM) j) c)
 |.l i j c=> (V.lenN (cellC (ZKx (xs.getD i ZmM) j) c):Nat)
 |.r i j c=> (V.rk (cellC (ZKx (xs.getD i ZmM) j) c):Nat)
def ZPH (lin:List (RQ×RQ×Int)) (xs:List V):Prop:=∀c∈lin,c.1.val xs - c.2.1.val xs≤c.2.2
structure Alt where
 r:RK
 lin:List (RQ×RQ×Int):=[]
 post:Option (List V→Prop):=none
 ap:Option Nat:=none
def Alt.q (a:Alt):Option (List V→Prop):=some fun xs=> ZPH a.lin xs∧∀Q,a.post=some Q→Q xs
def ApV (n:Nat) (nw:List Blk) (w:V):Prop:=w=.nils∨(∃cs len sz,w=.vs cs len sz .tight)∨∃cs len sz k,w=.vs cs len sz (.tok n k)∧nw=[.tok k]
def ApE (al:Alt) (n:Nat) (e:Eff):Prop:=∀j,al.ap=some j→ApV n e.nw (ZKx e.v j)
def ZOa:RK→Nat→Bool
 |.one (.one (.sl _ _ _)),0=> true
 |.tup (.one (.sl _ _ _)::_),0=> true
 |.tup [.ag _,.one (.sl _ _ _)],1=> true
 |_,_=> false
def mes (p c:Nat) (args:List V):Nat:=
 match args[p]? with
 |some (.agg cs)=> match cs[c]? with
  |some v=> V.rk v
  |none=> 0
 |some v=> V.rk v
 |none=> 0
variable (hint:Hint) (known:Known)
def ZK0 (f:FuncId) (ps:List PK) (alts:List Alt) (sm:Bool) (pre:List (Nat×Nat×Nat)) (lim:Option (Nat×Nat×Nat)):Prop:=
 ∀args,ZKz P KD ps args→V.pures args=true→(sm=true→∃xs,args=xs++xs)→(∀q∈pre,mes q.1 q.2.1 args≤q.2.2)→(∀p c N,lim=some (p,c,N)→mes p c args < N)→∀n,∃e,ZC3 hint known (EV P hint known) f args n=some [e]∧GoodE e∧∃al∈alts,ZLh P KD al.r e.v∧ZK6 al.q args e.v∧ApE al n e
variable {P KD hint known}
theorem ZKO.shut {p:PK} {v:V} (h:ZKO P KD p v):ZKO P KD p v.shut∧v.shut.pure=true:=by
 cases p with
 |one k=> exact TK.shut h
 |ag ks=>
  obtain⟨cs,rfl,h⟩:=h
  obtain⟨h1,h2⟩:=h.seals
  exact⟨⟨_,rfl,h1⟩,h2⟩
 |tt b=>
  have h:v=.bool b:=h
  subst h
  exact⟨rfl,rfl⟩
 |fc f=>
  have h:v=.fn (.func f) [] []:=h
  subst h
  exact⟨rfl,rfl⟩
 |ci k n=>
  have h:v=.int k n:=h
  subst h
  exact⟨rfl,rfl⟩
theorem ZXA {k:K} {v:V} (h:TK P KD k v):ZEY (V.shut v)=ZEY v:=by
 cases h <;> first|rfl|skip
 rename_i o _ _ _ _ _
 cases o <;> rfl
theorem Z1N {ks:List K} {vs:List V} (h:TKs P KD ks vs):(V.seals vs).map ZEY=vs.map ZEY:=by
 induction ks generalizing vs with
 |nil=> cases h;rfl
 |cons k ks ih=> cases h with|cons h ht=> show ZEY (V.shut _)::(V.seals _).map ZEY=_;rw[ZXA h,ih ht];rfl
theorem TK.nrm {k:K} {v:V} (h:TK P KD k v):ZFf v=ZEY v∧ZKp v=ZEY v:=by
 cases h <;> exact⟨rfl,rfl⟩
theorem ZKO.nrm {p:PK} {v:V} (h:ZKO P KD p v):ZFf v=ZKp v:=by
 cases p with
 |one k=> rw[(TK.nrm h).1,(TK.nrm h).2]
 |ag ks=> obtain⟨cs,rfl,h⟩:=h;rfl
 |tt b=> have h:v=.bool b:=h;subst h;rfl
 |fc f=> have h:v=.fn (.func f) [] []:=h;subst h;rfl
 |ci k n=> have h:v=.int k n:=h;subst h;rfl
theorem ZKO.nrm_shut {p:PK} {v:V} (h:ZKO P KD p v):ZFf (V.shut v)=ZFf v:=by
 cases p with
 |one k=> rw[(TK.nrm h).1,(TK.nrm (TK.shut h).1).1,ZXA h]
 |ag ks=>
  obtain⟨cs,rfl,h⟩:=h
  show V.agg ((V.seals cs).map ZEY)=V.agg (cs.map ZEY)
  rw[Z1N h]
 |tt b=> have h:v=.bool b:=h;subst h;rfl
 |fc f=> have h:v=.fn (.func f) [] []:=h;subst h;rfl
 |ci k n=> have h:v=.int k n:=h;subst h;rfl
theorem ZKz.nrm_seals:∀{ps:List PK} {vs:List V},ZKz P KD ps vs→vns (V.seals vs)=vns vs
 |[],[],_=> rfl
 |p::ps,v::vs,h=> by
  show ZFf (V.shut v)::vns (V.seals vs)=ZFf v::vns vs
  rw[ZKO.nrm_shut h.1,ZKz.nrm_seals h.2]
 |[],_::_,h=> h.elim
 |_::_,[],h=> h.elim
theorem ZKz.seals:∀{ps:List PK} {vs:List V},ZKz P KD ps vs→ZKz P KD ps (V.seals vs)∧V.pures (V.seals vs)=true
 |[],[],_=> ⟨trivial,rfl⟩
 |p::ps,v::vs,h=> by
  obtain⟨h1,h2⟩:=ZKO.shut h.1
  obtain⟨h3,h4⟩:=ZKz.seals h.2
  refine⟨⟨h1,h3⟩,?_⟩
  show(V.pure (V.shut v) && V.pures (V.seals vs))=true
  rw[h2,h4];rfl
 |[],_::_,h=> h.elim
 |_::_,[],h=> h.elim
theorem ZWr {h:H} {d:Nat} {k:K} {v:V} (ht:TK P KD k v):∃v',freeze h (d+1) v=some v'∧TK P KD k v'∧ZEY v'=ZEY v:=by
 cases ht with
 |bool=> exact⟨_,rfl,.bool,rfl⟩
 |int hw=> exact⟨_,rfl,.int hw,rfl⟩
 |idx hw=> exact⟨_,rfl,.idx hw,rfl⟩
 |str hw hm=> exact⟨_,rfl,.str hw hm,rfl⟩
 |nils=> exact⟨_,rfl,.nils,rfl⟩
 |ze=> exact⟨_,rfl,.ze,rfl⟩
 |vs hz hn hm hp hc=>
  rename_i e r cells n mx o
  cases o with
  |tok r e=> exact⟨_,rfl,.vs hz hn hm hp hc,rfl⟩
  |tight=> exact⟨_,rfl,.vs hz hn hm hp hc,rfl⟩
  |lock=> exact⟨_,rfl,.vs hz hn hm hp hc,rfl⟩
theorem ZWs {h:H} {d:Nat}:∀{ks:List K} {vs:List V},TKs P KD ks vs→∃vs',ZC5 (freeze h (d+1)) vs=some vs'∧TKs P KD ks vs'∧vs'.map ZEY=vs.map ZEY
 |[],_,.nil=> ⟨[],rfl,.nil,rfl⟩
 |k::ks,_,.cons h1 h2=> by
  obtain⟨v',e1,t1,n1⟩:=ZWr (h:=h) (d:=d) h1
  obtain⟨vs',e2,t2,n2⟩:=ZWs (h:=h) (d:=d) h2
  refine⟨v'::vs',?_,.cons t1 t2,by rw[List.map_cons,List.map_cons,n1,n2]⟩
  unfold ZC5
  rw[e1,e2]
theorem ZO6 {h:H} {d:Nat} {p:PK} {v:V} (ht:ZKO P KD p v):∃v',freeze h (d+2) v=some v'∧ZKO P KD p v'∧ZKp v'=ZKp v:=by
 cases p with
 |one k=>
  obtain⟨v',e1,t1,n1⟩:=ZWr (h:=h) (d:=d+1) ht
  exact⟨v',e1,t1,by rw[(TK.nrm t1).2,(TK.nrm ht).2,n1]⟩
 |ag ks=>
  obtain⟨cs,rfl,ht⟩:=ht
  obtain⟨cs',e1,t1,n1⟩:=ZWs (h:=h) (d:=d) ht
  refine⟨.agg cs',?_,⟨cs',rfl,t1⟩,congrArg V.agg n1⟩
  show(ZC5 (freeze h (d+1)) cs).map V.agg=_
  rw[e1];rfl
 |tt b=>
  have ht:v=.bool b:=ht
  subst ht
  exact⟨_,rfl,rfl,rfl⟩
 |fc f=>
  have ht:v=.fn (.func f) [] []:=ht
  subst ht
  exact⟨_,rfl,rfl,rfl⟩
 |ci k n=>
  have ht:v=.int k n:=ht
  subst ht
  exact⟨_,rfl,rfl,rfl⟩
theorem ZP8 {h:H} {d:Nat}:∀{ps:List PK} {vs:List V},ZKz P KD ps vs→∃vs',ZC5 (freeze h (d+2)) vs=some vs'∧ZKz P KD ps vs'∧vs'.map ZKp=vs.map ZKp
 |[],[],_=> ⟨[],rfl,trivial,rfl⟩
 |p::ps,v::vs,hh=> by
  obtain⟨v',e1,t1,n1⟩:=ZO6 (h:=h) (d:=d) hh.1
  obtain⟨vs',e2,t2,n2⟩:=ZP8 (h:=h) (d:=d) hh.2
  refine⟨v'::vs',?_,⟨t1,t2⟩,by rw[List.map_cons,List.map_cons,n1,n2]⟩
  unfold ZC5
  rw[e1,e2]
 |[],_::_,h=> h.elim
 |_::_,[],h=> h.elim
mutual
theorem ZSF {h:H}:∀{d:Nat} {v w:V},freeze h d v=some w→V.pure w=true
 |0,_,_,hf=> by cases hf
 |d+1,v,w,hf=> by
  unfold freeze at hf
  split at hf
  ·split at hf
   ·split at hf
    ·split at hf
     ·cases hf
      split <;> rfl
     ·cases hf
    ·cases hf
   ·cases hf
  ·cases hf;rfl
  ·rename_i cs
   cases hm:ZC5 (freeze h d) cs with
   |none=> rw[hm] at hf;cases hf
   |some l=>
    rw[hm] at hf
    cases hf
    exact ZOn hm
  ·rename_i cs
   cases hm:ZC5 (freeze h d) cs with
   |none=> rw[hm] at hf;cases hf
   |some l=>
    rw[hm] at hf
    cases hf
    exact ZOn hm
  ·split at hf
   ·rename_i hp
    cases hf
    exact hp
   ·cases hf
theorem ZOn {h:H}:∀{d:Nat} {vs ws:List V},ZC5 (freeze h d) vs=some ws→V.pures ws=true
 |d,[],ws,hf=> by cases hf;rfl
 |d,v::vs,ws,hf=> by
  unfold ZC5 at hf
  split at hf
  ·rename_i w ws' h1 h2
   cases hf
   show(V.pure w && V.pures ws')=true
   rw[ZSF h1,ZOn h2];rfl
  ·cases hf
end
theorem ZMp {v:V} (h:ZMC v):GoodE {v:=v}:=⟨rfl,rfl,rfl,Or.inl rfl,h⟩
theorem ZST {v:V} {k:Nat} (h:ZMC v):GoodE {v:=v,nw:=[.tok k]}:=⟨rfl,rfl,rfl,Or.inr ⟨k,rfl⟩,h⟩
theorem TK.own {k:K} {cs:List V} {len sz:Nat} {o:Own} (h:TK P KD k (.vs cs len sz o)) (o':Own):TK P KD k (.vs cs len sz o'):=by
 cases h with
 |vs hz hn hm hp hc=> exact .vs hz hn hm hp hc
theorem Z2e {n:Nat} {h:H} {r:RK} {v:V} (hv:ZLh P KD r v):∃e,ZD3 n h v=some e∧GoodE e∧ZLh P KD r e.v∧ZFf e.v=ZFf v:=by
 have other:(∃v',freeze h 60 v=some v'∧ZLh P KD r v'∧ZFf v'=ZFf v):=by
  cases r with
  |one p=>
   obtain⟨v',e1,t1,n1⟩:=ZO6 (h:=h) (d:=58) hv
   exact⟨v',e1,t1,by rw[ZKO.nrm t1,ZKO.nrm hv,n1]⟩
  |tup ps=>
   obtain⟨vs,rfl,hv⟩:=hv
   obtain⟨vs',e1,t1,n1⟩:=ZP8 (h:=h) (d:=57) hv
   refine⟨.tup vs',?_,⟨vs',rfl,t1⟩,congrArg V.tup n1⟩
   show(ZC5 (freeze h 59) vs).map V.tup=_
   rw[e1];rfl
 obtain⟨v',e1,t1,n1⟩:=other
 unfold ZD3
 split
 ·rename_i cs len sz q e
  have hk:∀o',ZLh P KD r (.vs cs len sz o'):=by
   intro o'
   cases r with
   |one p=>
    cases p with
    |one k=> exact TK.own hv o'
    |ag ks=> obtain⟨_,hh,_⟩:=hv;cases hh
    |tt b=> cases hv
    |fc f=> cases hv
    |ci k n=> cases hv
   |tup ps=> obtain⟨_,hh,_⟩:=hv;cases hh
  split
  ·split
   ·exact⟨_,rfl,ZST ZTd,hk _,rfl⟩
   ·exact⟨_,rfl,ZMp ZTd,hk _,rfl⟩
  ·exact⟨_,rfl,ZMp ZTd,hk _,rfl⟩
 ·rename_i cs len sz q e vs
  cases r with
  |one p=>
   cases p with
   |one k=> cases hv
   |ag ks=> obtain⟨_,hh,_⟩:=hv;cases hh
   |tt b=> cases hv
   |fc f=> cases hv
   |ci k n=> cases hv
  |tup ps=>
   obtain⟨ws,hh,hv⟩:=hv
   cases hh
   cases ps with
   |nil=> exact hv.elim
   |cons p ps=>
    obtain⟨h1,h2⟩:=hv
    obtain⟨vs',e2,t2,n2⟩:=ZP8 (h:=h) (d:=58) h2
    rw[e2]
    have hk:∀o',ZLh P KD (.tup (p::ps)) (.tup (.vs cs len sz o'::vs')):=by
     intro o'
     refine⟨_,rfl,?_,t2⟩
     cases p with
     |one k=> exact TK.own h1 o'
     |ag ks=> obtain⟨_,hh,_⟩:=h1;cases hh
     |tt b=> cases h1
     |fc f=> cases h1
     |ci k n=> cases h1
    have hn:∀o',ZFf (.tup (.vs cs len sz o'::vs'))=ZFf (.tup (.vs cs len sz (.tok q e)::vs)):=by
     intro o'
     show V.tup (_::vs'.map ZKp)=V.tup (_::vs.map ZKp)
     rw[n2];rfl
    simp only
    split
    ·split
     ·exact⟨_,rfl,ZST (ZTc (ZOn e2)),hk _,hn _⟩
     ·exact⟨_,rfl,ZMp (ZTc (ZOn e2)),hk _,hn _⟩
    ·exact⟨_,rfl,ZMp (ZTc (ZOn e2)),hk _,hn _⟩
 ·rename_i as cs len sz q e
  cases r with
  |one p=>
   cases p with
   |one k=> cases hv
   |ag ks=> obtain⟨_,hh,_⟩:=hv;cases hh
   |tt b=> cases hv
   |fc f=> cases hv
   |ci k n=> cases hv
  |tup ps=>
   obtain⟨ws,hh,hv⟩:=hv
   cases hh
   match ps,hv with
   |[],hv=> exact hv.elim
   |[_],hv=> exact hv.2.elim
   |_::_::_::_,hv=> exact hv.2.2.elim
   |[p,p'],hv=>
    obtain⟨h1,h2, -⟩:=hv
    obtain⟨u,e2,t2,n2⟩:=ZO6 (h:=h) (d:=58) h1
    rw[e2]
    have hk:∀o',ZLh P KD (.tup [p,p']) (.tup [u,.vs cs len sz o']):=by
     intro o'
     refine⟨_,rfl,t2,?_,trivial⟩
     cases p' with
     |one k=> exact TK.own h2 o'
     |ag ks=> obtain⟨_,hh,_⟩:=h2;cases hh
     |tt b=> cases h2
     |fc f=> cases h2
     |ci k n=> cases h2
    have hn:∀o',ZFf (.tup [u,.vs cs len sz o'])=ZFf (.tup [.agg as,.vs cs len sz (.tok q e)]):=by
     intro o'
     show V.tup [ZKp u,_]=V.tup [ZKp (.agg as),_]
     rw[n2];rfl
    have hl:∀o',ZMC (.tup [u,.vs cs len sz o']):=fun o'=> ⟨fun _ hh=> (by cases hh),fun w vs hh=> by
     cases hh
     refine⟨Or.inr ⟨?_,_,_,_,_,rfl⟩,fun cs hw=> ?_⟩
     ·cases p with
      |ag ks=> obtain⟨cs,rfl, -⟩:=t2;exact⟨_,rfl⟩
      |one k=> cases h1
      |tt b=> cases h1
      |fc f=> cases h1
      |ci k n=> cases h1
     have:=ZSF e2
     rw[hw] at this
     exact this⟩
    simp only
    split
    ·split
     ·exact⟨_,rfl,ZST (hl _),hk _,hn _⟩
     ·exact⟨_,rfl,ZMp (hl _),hk _,hn _⟩
    ·exact⟨_,rfl,ZMp (hl _),hk _,hn _⟩
 ·rw[e1]
  exact⟨_,rfl,ZMp (Z1q (ZSF e1)),t1,n1⟩
theorem ZK6.nrm {post:Option (List V→Prop)} {args:List V} {v w:V} (h:ZK6 post args v) (hn:ZFf w=ZFf v):ZK6 post args w:=by
 unfold ZK6 at h⊢
 cases post with
 |none=> trivial
 |some Q=>
  have e:vns (args++[w])=vns (args++[v]):=by
   unfold vns
   rw[List.map_append,List.map_append,List.map_singleton,List.map_singleton,hn]
  simp only at h⊢
  rw[e];exact h
theorem ZK6.seals {post:Option (List V→Prop)} {ps:List PK} {args:List V} {v:V} (ha:ZKz P KD ps args) (h:ZK6 post (V.seals args) v):ZK6 post args v:=by
 unfold ZK6 at h⊢
 cases post with
 |none=> trivial
 |some Q=>
  have e:vns (args++[v])=vns (V.seals args++[v]):=by
   have:=ZKz.nrm_seals ha
   unfold vns at this⊢
   rw[List.map_append,List.map_append,this]
  simp only at h⊢
  rw[e];exact h
theorem Z2d {n:Nat} {h:H} {r:RK} {v:V} {e:Eff} (he:ZD3 n h v=some e) (hv:ZLh P KD r v) {j:Nat} (hs:ZOa r j=true)
 (hw:ZKx v j=.nils∨(∃cs len sz,ZKx v j=.vs cs len sz .tight)∨∃cs len sz q k,ZKx v j=.vs cs len sz (.tok q k)∧h.get q=.tok k):ApV n e.nw (ZKx e.v j):=by
 unfold ZOa at hs
 split at hs
 ·rename_i e0 rf mx
  have hv:TK P KD (.sl e0 rf mx) v:=hv
  have hc:ZKx v 0=v:=by cases hv <;> rfl
  rw[hc] at hw
  rcases hw with rfl|⟨cs,len,sz,rfl⟩|⟨cs,len,sz,q,k,rfl,hg⟩
  ·cases he;exact Or.inl rfl
  ·cases he;exact Or.inr (Or.inl ⟨_,_,_,rfl⟩)
  ·unfold ZD3 at he
   simp only[hg,if_true] at he
   cases he
   exact Or.inr (Or.inr ⟨_,_,_,_,rfl,rfl⟩)
 ·obtain⟨vs,rfl,hv⟩:=hv
  match vs,hv with
  |[],hv=> exact hv.elim
  |w::vs,hv=>
   have hc:ZKx (.tup (w::vs)) 0=w:=rfl
   rw[hc] at hw
   obtain⟨vs',f1, -, -⟩:=ZP8 (h:=h) (d:=57) hv.2
   rcases hw with rfl|⟨cs,len,sz,rfl⟩|⟨cs,len,sz,q,k,rfl,hg⟩
   ·have f2:freeze h 60 (.tup (.nils::vs))=some (.tup (.nils::vs')):=by
     show(ZC5 (freeze h 59) (.nils::vs)).map V.tup=_
     unfold ZC5
     rw[f1];rfl
    unfold ZD3 at he
    simp only[f2] at he
    cases he
    exact Or.inl rfl
   ·have f2:freeze h 60 (.tup (.vs cs len sz .tight::vs))=some (.tup (.vs cs len sz .tight::vs')):=by
     show(ZC5 (freeze h 59) (.vs cs len sz .tight::vs)).map V.tup=_
     unfold ZC5
     rw[f1];rfl
    unfold ZD3 at he
    simp only[f2] at he
    cases he
    exact Or.inr (Or.inl ⟨_,_,_,rfl⟩)
   ·unfold ZD3 at he
    simp only at he
    split at he
    ·simp only[hg,if_true] at he
     cases he
     exact Or.inr (Or.inr ⟨_,_,_,_,rfl,rfl⟩)
    ·cases he
 ·obtain⟨vs,rfl,hv⟩:=hv
  match vs,hv with
  |[],hv=> exact hv.elim
  |[_],hv=> exact hv.2.elim
  |_::_::_::_,hv=> exact hv.2.2.elim
  |[u,w],hv=>
   obtain⟨⟨as,rfl,ha⟩, -, -⟩:=hv
   have hc:ZKx (.tup [.agg as,w]) 1=w:=rfl
   rw[hc] at hw
   rename_i ks _ _ _
   obtain⟨u',f1, -, -⟩:=ZO6 (h:=h) (d:=57) (p:=.ag ks) (v:=.agg as) ⟨as,rfl,ha⟩
   obtain⟨u2,f3, -, -⟩:=ZO6 (h:=h) (d:=58) (p:=.ag ks) (v:=.agg as) ⟨as,rfl,ha⟩
   rcases hw with rfl|⟨cs,len,sz,rfl⟩|⟨cs,len,sz,q,k,rfl,hg⟩
   ·have f2:freeze h 60 (.tup [.agg as,.nils])=some (.tup [u',.nils]):=by
     show(ZC5 (freeze h 59) [.agg as,.nils]).map V.tup=_
     unfold ZC5
     rw[f1];rfl
    unfold ZD3 at he
    simp only[f2] at he
    cases he
    exact Or.inl rfl
   ·have f2:freeze h 60 (.tup [.agg as,.vs cs len sz .tight])=some (.tup [u',.vs cs len sz .tight]):=by
     show(ZC5 (freeze h 59) [.agg as,.vs cs len sz .tight]).map V.tup=_
     unfold ZC5
     rw[f1];rfl
    unfold ZD3 at he
    simp only[f2] at he
    cases he
    exact Or.inr (Or.inl ⟨_,_,_,rfl⟩)
   ·unfold ZD3 at he
    simp only[f3,hg,if_true] at he
    cases he
    exact Or.inr (Or.inr ⟨_,_,_,_,rfl,rfl⟩)
 ·cases hs
theorem ZZK {f:FuncId} {args:List V} {v:V} {h1:H} {r:RK} {post:Option (List V→Prop)} (hk:known.call f args=none) (hh:hint.heap f=false) (hc:(EV P hint known).call f args H.empty=some [(.ret v,h1)]) (hv:ZLh P KD r v) (hp:ZK6 post args v) {ap:Option Nat} (hap:∀j,ap=some j→ZOa r j=true∧(ZKx v j=.nils∨(∃cs len sz,ZKx v j=.vs cs len sz .tight)∨∃cs len sz q k,ZKx v j=.vs cs len sz (.tok q k)∧h1.get q=.tok k)) (n:Nat):
 ∃e,ZC3 hint known (EV P hint known) f args n=some [e]∧GoodE e∧ZLh P KD r e.v∧ZK6 post args e.v∧∀j,ap=some j→ApV n e.nw (ZKx e.v j):=by
 obtain⟨e,e1,e2,e3,e4⟩:=Z2e (n:=n) (h:=h1) hv
 refine⟨e,?_,e2,e3,hp.nrm e4,fun j hj=> Z2d e1 hv (hap j hj).1 (hap j hj).2⟩
 unfold ZC3
 rw[hk]
 simp only
 rw[hc]
 have hl:ZE0 hint f n (.ret v,h1)=some e:=by
  show(if hint.heap f then _ else _)=_
  rw[if_neg (by rw[hh];simp),e1]
 show(match ZCT (ZE0 hint f n) [(.ret v,h1)] with
  |.some es=> some (oneOf es)
  |none=> none)=_
 unfold ZCT
 rw[hl];rfl
end
section
variable (P:Program) (KD:TypeId→Bool→List K)
def ZMo (a:SS) (x:A):PK→Bool
 |.one k=> ZNi P KD 100 a x k
 |.ag ks=> match x with
  |.agg l=> ZMn P KD 100 a l ks
  |.k (.agg cs)=> ZMn P KD 100 a (cs.map .k) ks
  |_=> false
 |.tt b=> match x with
  |.k (.bool c)=> c==b
  |.s x=> (match ZNf a.fs x with
   |some c=> c==b
   |none=> false)
  |_=> false
 |.fc f=> match x with
  |.k (.fn (.func h) [] [])=> Nat.beq h f
  |_=> false
 |.ci k n=> match x with
  |.k (.int k' n')=> decide (k'=k) && decide (n'=n)
  |_=> false
def ZMJ (a:SS):List A→List PK→Bool
 |[],[]=> true
 |x::l,p::ps=> ZMo P KD a x p && ZMJ a l ps
 |_,_=> false
def ZOm (a:SS) (x:A):RK→Bool
 |.one p=> ZMo P KD a x p
 |.tup ps=> match x with
  |.tup l=> ZMJ P KD a l ps
  |_=> false
def ZKr (pu:Bool):PK→SS→A×SS
 |.one k,a=> (.s a.nx,cond pu (ZLz k none a) (a.fresh (some ⟨k,false⟩)))
 |.ag ks,a=> (.agg (ZKu ks none a).1,(ZKu ks none a).2)
 |.tt b,a=> (.k (.bool b),a)
 |.fc f,a=> (.k (.fn (.func f) [] []),a)
 |.ci k n,a=> (.k (.int k n),a)
def ZKS:List PK→SS→List A×SS
 |[],a=> ([],a)
 |p::ps,a=> ((ZKr true p a).1::(ZKS ps (ZKr true p a).2).1,(ZKS ps (ZKr true p a).2).2)
def ZS1:PK→List PK→Bool
 |.ag _,[.one (.sl _ _ _)]=> true
 |_,_=> false
def ZKH:RK→SS→A×SS
 |.one p,a=> ZKr false p a
 |.tup [],a=> (.tup [],a)
 |.tup (p::ps),a=> cond (ZS1 p ps) (match ps with
  |[q]=> (.tup [(ZKr false p a).1,(ZKr false q (ZKr false p a).2).1],(ZKr false q (ZKr false p a).2).2)
  |_=> (.tup [],a)) (.tup ((ZKr false p a).1::(ZKS ps (ZKr false p a).2).1),(ZKS ps (ZKr false p a).2).2)
variable {P KD}
variable {ρ:Nat→V} {m:Nat→Nat} {a:SS} {f:Nat→V} {nb n:Nat} {g:Nat→Blk}
theorem ZSC (h:Rel P KD ρ m a f nb g) (hKD:∀e,(KD e true).length=(KD e false).length) {x:A} {p:PK} (hf:ZMo P KD a x p=true):ZKO P KD p (x.den ρ m):=by
 cases p with
 |one k=> exact ZSB h hKD hf
 |ag ks=>
  unfold ZMo at hf
  simp only at hf
  split at hf
  ·exact⟨_,rfl,ZOk h hKD hf⟩
  ·have:=ZOk h hKD hf
   rw[ZLS] at this
   exact⟨_,rfl,this⟩
  ·cases hf
 |tt b=>
  unfold ZMo at hf
  simp only at hf
  split at hf
  ·rw[←eq_of_beq hf];rfl
  ·split at hf
   ·rename_i hc
    have:=ZP6 (fun F hF=> (h.fs F hF).2) hc
    rw[←eq_of_beq hf];exact this
   ·cases hf
  ·cases hf
 |fc f=>
  unfold ZMo at hf
  simp only at hf
  split at hf
  ·rw[←Nat.eq_of_beq_eq_true hf];rfl
  ·cases hf
 |ci k n=>
  unfold ZMo at hf
  simp only at hf
  split at hf
  ·rw[Bool.and_eq_true,decide_eq_true_eq,decide_eq_true_eq] at hf
   obtain⟨rfl,rfl⟩:=hf
   rfl
  ·cases hf
theorem ZO5 (h:Rel P KD ρ m a f nb g) (hKD:∀e,(KD e true).length=(KD e false).length):∀{l:List A} {ps:List PK},ZMJ P KD a l ps=true→ZKz P KD ps (A.dens ρ m l)
 |[],[],_=> trivial
 |x::l,p::ps,hf=> by
  have hf:(ZMo P KD a x p && ZMJ P KD a l ps)=true:=hf
  rw[Bool.and_eq_true] at hf
  exact⟨ZSC h hKD hf.1,ZO5 h hKD hf.2⟩
 |[],_::_,hf=> by cases hf
 |_::_,[],hf=> by cases hf
theorem ZZ9 (h:Rel P KD ρ m a f nb g) (hKD:∀e,(KD e true).length=(KD e false).length) {x:A} {r:RK} (hf:ZOm P KD a x r=true):ZLh P KD r (x.den ρ m):=by
 cases r with
 |one p=> exact ZSC h hKD hf
 |tup ps=>
  unfold ZOm at hf
  simp only at hf
  split at hf
  ·exact⟨_,rfl,ZO5 h hKD hf⟩
  ·cases hf
theorem ZO7 (h:Rel P KD ρ m a f nb g) {p:PK} {v:V} {pu:Bool} (hv:ZKO P KD p v) (hp:(pu=true∨∃cs,v=.agg cs)→V.pure v=true):
 ∃ρ',(∀y,y < a.nx→ρ' y=ρ y)∧Rel P KD ρ' m (ZKr pu p a).2 f nb g∧A.den ρ' m (ZKr pu p a).1=v∧a.nx≤(ZKr pu p a).2.nx∧(ZKr pu p a).2.blks=a.blks∧A.bel (ZKr pu p a).2.nx a.blks.length (ZKr pu p a).1=true∧(ZKr pu p a).2.ap=a.ap:=by
 cases p with
 |one k=>
  cases pu with
  |true=>
   obtain⟨h1,h2,h3,h4⟩:=ZWt h (p:=none) hv (hp (Or.inl rfl)) fun q hq=> by cases hq
   exact⟨_,fun y hy=> QF _ _ (by omega),h1,zag _ _ _,by show a.nx≤(ZLz k none a).nx;rw[h2];exact Nat.le_succ _,h3,ZKy (by show a.nx < (ZLz k none a).nx;rw[h2];exact Nat.lt_succ_self _),h4⟩
  |false=>
   exact⟨at1 ρ a.nx v,fun y hy=> QF _ _ (by omega),h.fresh (i:=some ⟨k,false⟩) fun j hj=> (by cases hj;exact⟨hv,fun hh=> by cases hh⟩),zag _ _ _,Nat.le_succ _,rfl,ZKy (Nat.lt_succ_self _),rfl⟩
 |ag ks=>
  obtain⟨cs,rfl,hv⟩:=hv
  obtain⟨ρ',h1,h2,h3,h4,h5,h6,h7⟩:=ZP9 (p:=none) h hv (hp (Or.inr ⟨_,rfl⟩)) fun q hq=> by cases hq
  refine⟨ρ',h1,h2,congrArg V.agg h3,?_,h5,?_,h7⟩
  ·show a.nx≤(ZKu ks none a).2.nx
   rw[h4];exact Nat.le_add_right _ _
  ·show A.bels (ZKu ks none a).2.nx a.blks.length (ZKu ks none a).1=true
   rw[h4,h6]
   exact ZSb _ _ (Nat.le_refl _)
 |tt b=>
  have hv:v=.bool b:=hv
  subst hv
  exact⟨ρ,fun _ _=> rfl,h,rfl,Nat.le_refl _,rfl,rfl,rfl⟩
 |fc f=>
  have hv:v=.fn (.func f) [] []:=hv
  subst hv
  exact⟨ρ,fun _ _=> rfl,h,rfl,Nat.le_refl _,rfl,rfl,rfl⟩
 |ci k n=>
  have hv:v=.int k n:=hv
  subst hv
  exact⟨ρ,fun _ _=> rfl,h,rfl,Nat.le_refl _,rfl,rfl,rfl⟩
theorem ZSG:∀{ps:List PK} {vs:List V} {a:SS} {ρ:Nat→V},Rel P KD ρ m a f nb g→ZKz P KD ps vs→V.pures vs=true→
 ∃ρ',(∀y,y < a.nx→ρ' y=ρ y)∧Rel P KD ρ' m (ZKS ps a).2 f nb g∧A.dens ρ' m (ZKS ps a).1=vs∧a.nx≤(ZKS ps a).2.nx∧(ZKS ps a).2.blks=a.blks∧A.bels (ZKS ps a).2.nx a.blks.length (ZKS ps a).1=true∧(ZKS ps a).2.ap=a.ap
 |[],[],a,ρ,h,_,_=> ⟨ρ,fun _ _=> rfl,h,rfl,Nat.le_refl _,rfl,rfl,rfl⟩
 |p::ps,v::vs,a,ρ,h,hv,hp=> by
  have hp:(V.pure v && V.pures vs)=true:=hp
  rw[Bool.and_eq_true] at hp
  obtain⟨ρ1,a1,a2,a3,a4,a5,a6,a7⟩:=ZO7 h (pu:=true) hv.1 fun _=> hp.1
  obtain⟨ρ2,b1,b2,b3,b4,b5,b6,b7⟩:=ZSG a2 hv.2 hp.2
  refine⟨ρ2,fun y hy=> (b1 y (Nat.lt_of_lt_of_le hy a4)).trans (a1 y hy),b2,?_,Nat.le_trans a4 b4,b5.trans a5,?_,b7.trans a7⟩
  ·show A.den ρ2 m (ZKr true p a).1::A.dens ρ2 m _=_
   rw[b3,A.den_congr b1 (fun _ _=> rfl) _ (a5 ▸ a6),a3]
  ·show(A.bel _ _ (ZKr true p a).1 && A.bels _ _ _)=true
   rw[Bool.and_eq_true]
   exact⟨A.bel_le b4 (Nat.le_refl _) _ a6,a5 ▸ b6⟩
 |[],_::_,_,_,_,hv,_=> hv.elim
 |_::_,[],_,_,_,hv,_=> hv.elim
theorem Z0n (h:Rel P KD ρ m a f nb g) {r:RK} {v:V} (hv:ZLh P KD r v) (hl:ZMC v):
 ∃ρ',(∀y,y < a.nx→ρ' y=ρ y)∧Rel P KD ρ' m (ZKH r a).2 f nb g∧A.den ρ' m (ZKH r a).1=v∧a.nx≤(ZKH r a).2.nx∧(ZKH r a).2.blks=a.blks∧(ZKH r a).2.ap=a.ap:=by
 cases r with
 |one p=>
  obtain⟨ρ',h1,h2,h3,h4,h5, -,h6⟩:=ZO7 h (pu:=false) hv fun hh=> by
   rcases hh with hh|⟨cs,rfl⟩
   ·cases hh
   ·exact hl.1 cs rfl
  exact⟨ρ',h1,h2,h3,h4,h5,h6⟩
 |tup ps=>
  obtain⟨vs,rfl,hv⟩:=hv
  cases ps with
  |nil=>
   cases vs with
   |nil=> exact⟨ρ,fun _ _=> rfl,h,rfl,Nat.le_refl _,rfl,rfl⟩
   |cons _ _=> exact hv.elim
  |cons p ps=>
   cases vs with
   |nil=> exact hv.elim
   |cons v vs=>
    obtain⟨l1,l2⟩:=hl.2 v vs rfl
    obtain⟨ρ1,a1,a2,a3,a4,a5,a6,a7⟩:=ZO7 h (pu:=false) hv.1 fun hh=> by
     rcases hh with hh|⟨cs,rfl⟩
     ·cases hh
     ·exact l2 cs rfl
    cases has:ZS1 p ps with
    |true=>
     unfold ZS1 at has
     split at has
     ·rename_i ks e r n
      match vs,hv with
      |[],hv=> exact hv.2.elim
      |_::_::_,hv=> exact hv.2.2.elim
      |[w],hv=>
       have hw:TK P KD (.sl e r n) w:=hv.2.1
       obtain⟨ρ2,b1,b2,b3,b4,b5,b6,b7⟩:=ZO7 a2 (p:=.one (.sl e r n)) (pu:=false) (v:=w) hw fun hh=> by
        rcases hh with hh|⟨cs,rfl⟩
        ·cases hh
        ·cases hw
       refine⟨ρ2,fun y hy=> (b1 y (Nat.lt_of_lt_of_le hy a4)).trans (a1 y hy),b2,?_,Nat.le_trans a4 b4,b5.trans a5,b7.trans a7⟩
       show V.tup [A.den ρ2 m (ZKr false (.ag ks) a).1,A.den ρ2 m _]=_
       rw[b3,A.den_congr b1 (fun _ _=> rfl) _ (a5 ▸ a6),a3]
     ·cases has
    |false=>
     have l1:V.pures vs=true:=by
      rcases l1 with l1|⟨⟨as,rfl⟩,cs,n,sz,o,rfl⟩
      ·exact l1
      ·exfalso
       obtain⟨h1,h2⟩:=hv
       match ps,h2 with
       |[],h2=> exact h2.elim
       |_::_::_,h2=> exact h2.2.elim
       |[q],h2=>
        cases p with
        |ag ks=>
         cases q with
         |one k=>
          have hw:TK P KD k (.vs cs n sz o):=h2.1
          cases hw
          cases has
         |ag ks=> obtain⟨_,hh,_⟩:=h2.1;cases hh
         |tt b=> cases h2.1
         |fc f=> cases h2.1
         |ci k n=> cases h2.1
        |one k=> cases h1
        |tt b=> cases h1
        |fc f=> cases h1
        |ci k n=> cases h1
     have e0:ZKH (.tup (p::ps)) a=(.tup ((ZKr false p a).1::(ZKS ps (ZKr false p a).2).1),(ZKS ps (ZKr false p a).2).2):=by
      unfold ZKH
      simp only[has,cond_false]
     rw[e0]
     obtain⟨ρ2,b1,b2,b3,b4,b5,b6,b7⟩:=ZSG a2 hv.2 l1
     refine⟨ρ2,fun y hy=> (b1 y (Nat.lt_of_lt_of_le hy a4)).trans (a1 y hy),b2,?_,Nat.le_trans a4 b4,b5.trans a5,b7.trans a7⟩
     show V.tup (A.den ρ2 m (ZKr false p a).1::A.dens ρ2 m _)=_
     rw[b3,A.den_congr b1 (fun _ _=> rfl) _ (a5 ▸ a6),a3]
theorem ZQl (v:V):V.intN (ZEY v)=V.intN v:=by cases v <;> rfl
theorem ZOz (v:V):V.lenN (ZEY v)=V.lenN v:=by cases v <;> rfl
theorem Z2l (v:V):V.rk (ZEY v)=V.rk v:=by cases v <;> rfl
theorem ZTs (F:V→Int) (hF:∀v,F (ZEY v)=F v) (v:V) (j c:Nat):F (cellC (ZKx (ZFf v) j) c)=F (cellC (ZKx v j) c):=by
 have h2:∀w,F (cellC (ZKp w) c)=F (cellC w c):=by
  intro w
  cases w with
  |agg cs=>
   show F ((cs.map ZEY).getD c ZmM)=F (cs.getD c ZmM)
   rw[List.getD_eq_getElem?_getD,List.getD_eq_getElem?_getD,List.getElem?_map]
   cases cs[c]? with
   |none=> rfl
   |some x=> exact hF x
  |vs cs n sz o=> exact hF (.vs cs n sz o)
  |_=> rfl
 cases v with
 |tup vs=>
  show F (cellC ((vs.map ZKp).getD j ZmM) c)=F (cellC (vs.getD j ZmM) c)
  rw[List.getD_eq_getElem?_getD,List.getD_eq_getElem?_getD,List.getElem?_map]
  cases vs[j]? with
  |none=> rfl
  |some x=> exact h2 x
 |agg cs=> exact h2 (.agg cs)
 |vs cs n sz o=> exact hF (.vs cs n sz o)
 |_=> rfl
theorem ZUR (xs:List V) (i:Nat):(vns xs).getD i ZmM=ZFf (xs.getD i ZmM):=by
 unfold vns
 rw[List.getD_eq_getElem?_getD,List.getD_eq_getElem?_getD,List.getElem?_map]
 cases xs[i]? <;> rfl
theorem RQ.val_vns (xs:List V) (q:RQ):q.val (vns xs)=q.val xs:=by
 cases q with
 |z=> rfl
 |v i j c=> show V.intN _=V.intN _;rw[ZUR];exact ZTs V.intN ZQl _ j c
 |l i j c=>
  show((V.lenN _:Nat):Int)=((V.lenN _:Nat):Int)
  rw[ZUR]
  exact ZTs (fun v=> ((V.lenN v:Nat):Int)) (fun v=> by rw[ZOz]) _ j c
 |r i j c=>
  show((V.rk _:Nat):Int)=((V.rk _:Nat):Int)
  rw[ZUR]
  exact ZTs (fun v=> ((V.rk v:Nat):Int)) (fun v=> by rw[Z2l]) _ j c
def ZLR (x:A) (c:Nat):Option A:=match x with
 |.agg l=> l[c]?
 |.k (.agg cs)=> (cs[c]?).map .k
 |x=> some x
def ZMM (a:SS):A→Option (Q×Int)
 |.k (.str s)=> some (.z,s.size)
 |.s x=> match ZFS a x with
  |some (.sl _ _ _)=> some (.l x,0)
  |some (.str _)=> some (.l x,0)
  |_=> none
 |x=> ZPq a x
theorem ZOV {x y:A} {c:Nat} (h:ZLR x c=some y):cellC (x.den ρ m) c=y.den ρ m∨∃x',x=.s x'∧y=.s x':=by
 unfold ZLR at h
 split at h
 ·rename_i l
  left
  show((A.dens ρ m l).getD c ZmM)=_
  rw[List.getD_eq_getElem?_getD,ZLp,h];rfl
 ·rename_i cs
  left
  show(cs.getD c ZmM)=_
  rw[List.getD_eq_getElem?_getD]
  cases hc:cs[c]? with
  |none=> rw[hc] at h;cases h
  |some v=> rw[hc] at h;cases h;rfl
 ·rename_i h1 h2
  cases h
  cases x with
  |s x=> exact Or.inr ⟨x,rfl,rfl⟩
  |k v=>
   left
   cases v <;> first|rfl|exact absurd rfl (h2 _)
  |agg l=> exact absurd rfl (h1 _)
  |_=> exact Or.inl rfl
theorem TK.cellC {k:K} {v:V} (h:TK P KD k v) (c:Nat):Ae.cellC v c=v:=by
 cases h <;> rfl
theorem ZTg (h:Rel P KD ρ m a f nb g) {x:A} {q:Q} {k:Int} (hx:ZMM a x=some (q,k)):((V.lenN (x.den ρ m):Nat):Int)=q.val ρ+k∧q.bel a.nx=true:=by
 unfold ZMM at hx
 split at hx
 ·cases hx;exact⟨by rw[ZKL,Int.zero_add];rfl,rfl⟩
 ·rename_i x
  split at hx
  ·rename_i hk
   cases hx
   exact⟨by show((V.lenN (ρ x):Nat):Int)=((V.lenN (ρ x):Nat):Int)+0;omega,ZKy (ZGN h hk).2⟩
  ·rename_i hk
   cases hx
   exact⟨by show((V.lenN (ρ x):Nat):Int)=((V.lenN (ρ x):Nat):Int)+0;omega,ZKy (ZGN h hk).2⟩
  ·cases hx
 ·exact ZTi h hx
def rkL (a:SS):A→Option (Q×Int)
 |.s x=> cond (ZFS a x).isSome (some (.r x,0)) none
 |_=> none
def ZNa (x:A) (j:Nat):Option A:=match x with
 |.tup l=> l[j]?
 |.agg l=> some (.agg l)
 |.s y=> some (.s y)
 |.len y=> some (.len y)
 |.k (.int k n)=> some (.k (.int k n))
 |_=> none
def RQ.inst (a:SS) (xs:List A):RQ→Option (Q×Int)
 |.z=> some (.z,0)
 |.v i j c=> match xs[i]? with
  |some x=> match ZNa x j with
   |some y=> match ZLR y c with
    |some w=> ZKT a w
    |none=> none
   |none=> none
  |none=> none
 |.l i j c=> match xs[i]? with
  |some x=> match ZNa x j with
   |some y=> match ZLR y c with
    |some w=> ZMM a w
    |none=> none
   |none=> none
  |none=> none
 |.r i j c=> match xs[i]? with
  |some x=> match ZNa x j with
   |some y=> match ZLR y c with
    |some w=> rkL a w
    |none=> none
   |none=> none
  |none=> none
theorem ZSh (h:Rel P KD ρ m a f nb g) {x y:A} {c:Nat} (hy:ZLR x c=some y) (hk:∀z,y=.s z→∃k,ZFS a z=some k):cellC (x.den ρ m) c=y.den ρ m:=by
 rcases ZOV (ρ:=ρ) (m:=m) hy with e|⟨z,rfl,rfl⟩
 ·exact e
 ·obtain⟨k,hk⟩:=hk z rfl
  exact(ZGN h hk).1.cellC c
theorem ZOX (h:Rel P KD ρ m a f nb g) {x y:A} {j:Nat} (hy:ZNa x j=some y) (hk:∀z,y=.s z→∃k,ZFS a z=some k):ZKx (x.den ρ m) j=y.den ρ m:=by
 unfold ZNa at hy
 split at hy
 ·rename_i l
  show(A.dens ρ m l).getD j ZmM=_
  rw[List.getD_eq_getElem?_getD,ZLp,hy];rfl
 ·cases hy;rfl
 ·rename_i z
  cases hy
  obtain⟨k,hk⟩:=hk z rfl
  have ht:=(ZGN h hk).1
  show ZKx (ρ z) j=ρ z
  generalize ρ z=v at ht
  cases ht <;> rfl
 ·cases hy;rfl
 ·cases hy;rfl
 ·cases hy
theorem Z1y {x:A} {q:Q×Int} (hx:ZKT a x=some q):∀z,x=.s z→∃k,ZFS a z=some k:=by
 intro z hz
 subst hz
 unfold ZKT at hx
 simp only at hx
 split at hx
 ·rename_i k hk;exact⟨k,hk⟩
 ·cases hx
theorem Z1u {x:A} {q:Q×Int} (hx:ZMM a x=some q):∀z,x=.s z→∃k,ZFS a z=some k:=by
 intro z hz
 subst hz
 unfold ZMM at hx
 simp only at hx
 split at hx
 ·rename_i hk;exact⟨_,hk⟩
 ·rename_i hk;exact⟨_,hk⟩
 ·cases hx
theorem Z2j (h:Rel P KD ρ m a f nb g) {x:A} {q:Q} {k:Int} (hx:rkL a x=some (q,k)):((V.rk (x.den ρ m):Nat):Int)=q.val ρ+k∧∀z,x=.s z→∃k,ZFS a z=some k:=by
 unfold rkL at hx
 split at hx
 ·rename_i z
  cases hk:ZFS a z with
  |none=> rw[hk] at hx;cases hx
  |some kk=>
   rw[hk] at hx
   cases hx
   refine⟨by show((V.rk (ρ z):Nat):Int)=((V.rk (ρ z):Nat):Int)+0;omega,fun w hw=> ?_⟩
   cases hw
   exact⟨_,hk⟩
 ·cases hx
theorem ZSg {y z:A} {c:Nat} (hz:ZLR y c=some z) (hk:∀w,z=.s w→∃k,ZFS a w=some k):∀w,y=.s w→∃k,ZFS a w=some k:=by
 intro w hw
 subst hw
 cases hz
 exact hk w rfl
theorem RQ.inst_ok (h:Rel P KD ρ m a f nb g) {xs:List A} {p:RQ} {q:Q} {k:Int} (hp:RQ.inst a xs p=some (q,k)):p.val (A.dens ρ m xs)=q.val ρ+k:=by
 have at':∀{i:Nat} {x:A},xs[i]?=some x→(A.dens ρ m xs).getD i ZmM=x.den ρ m:=by
  intro i x hx
  rw[List.getD_eq_getElem?_getD,ZLp,hx];rfl
 cases p with
 |z=> cases hp;rfl
 |v i j c=>
  unfold RQ.inst at hp
  simp only at hp
  split at hp
  ·rename_i x hx
   split at hp
   ·rename_i y hy
    split at hp
    ·rename_i z hz
     have k1:=Z1y hp
     show V.intN (cellC (ZKx ((A.dens ρ m xs).getD i ZmM) j) c)=_
     rw[at' hx,ZOX h hy (ZSg hz k1),ZSh h hz k1]
     obtain⟨i',N,h1,h2,h3⟩:=ZMN h hp
     rw[h1,←h2];rfl
    ·cases hp
   ·cases hp
  ·cases hp
 |l i j c=>
  unfold RQ.inst at hp
  simp only at hp
  split at hp
  ·rename_i x hx
   split at hp
   ·rename_i y hy
    split at hp
    ·rename_i z hz
     have k1:=Z1u hp
     show((V.lenN (cellC (ZKx ((A.dens ρ m xs).getD i ZmM) j) c):Nat):Int)=_
     rw[at' hx,ZOX h hy (ZSg hz k1),ZSh h hz k1]
     exact(ZTg h hp).1
    ·cases hp
   ·cases hp
  ·cases hp
 |r i j c=>
  unfold RQ.inst at hp
  simp only at hp
  split at hp
  ·rename_i x hx
   split at hp
   ·rename_i y hy
    split at hp
    ·rename_i z hz
     obtain⟨r1,k1⟩:=Z2j h hp
     show((V.rk (cellC (ZKx ((A.dens ρ m xs).getD i ZmM) j) c):Nat):Int)=_
     rw[at' hx,ZOX h hy (ZSg hz k1),ZSh h hz k1]
     exact r1
    ·cases hp
   ·cases hp
  ·cases hp
def ZMu (a:SS) (xs:List A):List (RQ×RQ×Int)→List Fact
 |[]=> []
 |c::l=> match RQ.inst a xs c.1,RQ.inst a xs c.2.1 with
  |some (p,i),some (q,j)=> .c p q (c.2.2 - i+j)::ZMu a xs l
  |_,_=> ZMu a xs l
theorem ZXg (h:Rel P KD ρ m a f nb g) {xs:List A}:∀{lin:List (RQ×RQ×Int)},ZPH lin (vns (A.dens ρ m xs))→∀F∈ZMu a xs lin,F.ok P KD ρ
 |[],_,F,hF=> by cases hF
 |c::l,hl,F,hF=> by
  have ih:=ZXg h (lin:=l) fun c' hc'=> hl c' (List.mem_cons_of_mem _ hc')
  unfold ZMu at hF
  split at hF
  ·rename_i p i q j h1 h2
   rcases List.mem_cons.1 hF with rfl|hF
   ·have:=hl c (List.mem_cons_self ..)
    rw[RQ.val_vns,RQ.val_vns,RQ.inst_ok h h1,RQ.inst_ok h h2] at this
    show p.val ρ - q.val ρ≤_
    omega
   ·exact ih F hF
  ·exact ih F hF
def ZPr (a:SS) (xs:List A) (lin:List (RQ×RQ×Int)):Bool:=lin.all fun c=> match RQ.inst a xs c.1,RQ.inst a xs c.2.1 with
 |some (p,i),some (q,j)=> ent a 4 p q (c.2.2 - i+j)
 |_,_=> false
theorem Z1z (h:Rel P KD ρ m a f nb g) {xs:List A} {lin:List (RQ×RQ×Int)} (hb:ZPr a xs lin=true):ZPH lin (vns (A.dens ρ m xs)):=by
 intro c hc
 have h1:=List.all_eq_true.1 hb c hc
 split at h1
 ·rename_i p i q j e1 e2
  have:=ZGI h h1
  rw[RQ.val_vns,RQ.val_vns,RQ.inst_ok h e1,RQ.inst_ok h e2]
  omega
 ·cases h1
end
end
section
structure CE where
 f:FuncId
 ps:List PK
 alts:List Alt
 sm:Bool
 pre:List (Nat×Nat×Nat)
 lim:Option (Nat×Nat×Nat×Nat)
section
variable (P:Program) (KD:TypeId→Bool→List K) (hint:Hint) (known:Known)
def CE.ok (ρ:Nat→V) (nx:Nat) (e:CE):Prop:=
 ZK0 P KD hint known e.f e.ps e.alts e.sm e.pre (e.lim.map fun l=> (l.1,l.2.1,V.rk (ρ l.2.2.1)+l.2.2.2))∧(∀l,e.lim=some l→l.2.2.1 < nx)∧hint.frame e.f=false
def cellOf (x:A) (c:Nat):Option Nat:=
 match x with
 |.s y=> some y
 |.agg l=> match l[c]? with
  |some (.s y)=> some y
  |_=> none
 |_=> none
def ZRn (a:SS) (xs:List A):Option (Nat×Nat×Nat×Nat)→Bool
 |none=> true
 |some (p,c,x0,d)=> match xs[p]? with
  |some x=> match cellOf x c with
   |some y=> (ZFS a y).isSome && ent a 4 (.r y) (.r x0) ((d:Int) - 1)
   |none=> false
  |none=> false
def ZRz (a:SS) (xs:List A) (q:Nat×Nat×Nat):Bool:=
 match xs[q.1]? with
 |some x=> match cellOf x q.2.1 with
  |some y=> (ZFS a y).isSome && ent a 4 (.r y) .z q.2.2
  |none=> false
 |none=> false
def ZTR (sm:Bool) (xs:List A):Bool:= !sm||A.beqs xs (xs.take (xs.length / 2)++xs.take (xs.length / 2))
def ZPw (post:Option (List V→Prop)) (xs:List A) (r:A×SS):A×SS:=
 match post with
 |none=> r
 |some Q=> (r.1,r.2.knowB (.pr (fun l=> Q (vns l)) (xs++[r.1])))
def ZK1 (xs:List A) (a:SS) (al:Alt):A×SS:=let r:=ZKH al.r a
 ZPw al.post xs (r.1,knows (ZMu r.2 (xs++[r.1]) al.lin) r.2)
def ZMP (a:SS) (al:Alt) (r:A×SS):A×SS:=
 match al.ap with
 |none=> r
 |some j=> match ZNa r.1 j with
  |some (.s y)=> cond (Nat.ble a.nx y && Nat.blt y r.2.nx && (ZFS r.2 y).isSome) (r.1,{r.2 with ap:=y::r.2.ap}) r
  |_=> r
def ZPQ (a:SS) (f:Nat) (xs:List A):List CE→Option (List (A×SS))
 |[]=> none
 |e::l=> cond (Nat.beq e.f f && ZMJ P KD a xs e.ps && ZRn a xs e.lim && ZTR e.sm xs && e.pre.all (ZRz a xs)) (some (e.alts.map fun al=> ZMP a al (ZK1 xs a al))) (ZPQ a f xs l)
def ZRZ (ρ:Nat→V) (m:Nat→Nat) (a:SS) (fr:Nat→V) (nb:Nat) (g:Nat→Blk) (f:Nat) (args:List V) (rs:List (A×SS)):Prop:=
 V.pures (V.seals args)=true∧∃e,ZC3 hint known (EV P hint known) f (V.seals args) nb=some [e]∧∃r∈rs,ZGK P KD ρ m a fr nb g e (r.1,r.2,.call)
def ZRm (y x:Nat):List Fact:=[.c (.l y) (.l x) 0,.c (.l x) (.l y) 0,.c (.r y) (.r x) 0,.c (.r x) (.r y) 0,.c (.n y) (.n x) 0,.c (.n x) (.n y) 0]
mutual
def ZOG:A→SS→Option (A×SS)
 |.k v,a=> cond (V.pure v && V.beq (V.shut v) v) (some (.k v,a)) none
 |.s x,a=> cond (ZMw a x) (cond (ZFS a x).isSome (some (.s x,a)) none) (match ZFS a x with
  |some k=> some (.s a.nx,knows (ZRm a.nx x) (a.fresh (some ⟨k,true⟩)))
  |none=> none)
 |.len x,a=> some (.len x,a)
 |.lit l n z,a=> some (.lit l n z,a)
 |.ip l x,a=> some (.ip l x,a)
 |.agg l,a=> match ZMY l a with
  |some (l',a')=> some (.agg l',a')
  |none=> none
 |.fn f l l',a=> match ZMY l a with
  |some (k,a1)=> match ZMY l' a1 with
   |some (k',a2)=> some (.fn f k k',a2)
   |none=> none
  |none=> none
 |.loc _ _,_=> none
 |.tup _,_=> none
def ZMY:List A→SS→Option (List A×SS)
 |[],a=> some ([],a)
 |x::l,a=> match ZOG x a with
  |some (y,a1)=> match ZMY l a1 with
   |some (k,a2)=> some (y::k,a2)
   |none=> none
  |none=> none
end
variable {P KD hint known}
variable {ρ:Nat→V} {m:Nat→Nat} {a:SS} {f:Nat→V} {nb n:Nat} {g:Nat→Blk}
theorem ZTN:∀(l:List V) (i:Nat),(V.seals l)[i]?=(l[i]?).map V.shut
 |[],i=> by simp[V.seals]
 |v::l,0=> rfl
 |v::l,i+1=> by
  show(V.shut v::V.seals l)[i+1]?=_
  rw[List.getElem?_cons_succ,List.getElem?_cons_succ,ZTN l i]
theorem ZRr (h:Rel P KD ρ m a f nb g) {xs:List A} {p c y:Nat} {x:A} (hx:xs[p]?=some x) (hy:cellOf x c=some y) (hk:(ZFS a y).isSome=true):mes p c (A.dens ρ m xs)=V.rk (ρ y)∧mes p c (V.seals (A.dens ρ m xs))=V.rk (ρ y):=by
 cases hk':ZFS a y with
 |none=> rw[hk'] at hk;cases hk
 |some k=>
  have ht:=(ZGN h hk').1
  unfold mes
  rw[ZTN,ZLp,hx]
  simp only[Option.map_some]
  cases x with
  |s z=>
   have hy:some z=some y:=hy
   have hy:=Option.some.inj hy
   subst hy
   have e0:A.den ρ m (A.s z)=ρ z:=rfl
   rw[e0]
   refine⟨?_,?_⟩
   ·split
    ·rename_i cs hh
     have hh:=Option.some.inj hh
     rw[hh] at ht
     cases ht
    ·rename_i v hh1 hh
     rw[←Option.some.inj hh]
    ·rename_i hh;cases hh
   ·have ht2:=ht.shut.1
    split
    ·rename_i cs hh
     have hh:=Option.some.inj hh
     rw[hh] at ht2
     cases ht2
    ·rename_i v hh1 hh
     rw[←Option.some.inj hh,ZTP]
    ·rename_i hh;cases hh
  |agg l=>
   unfold cellOf at hy
   simp only at hy
   split at hy
   ·rename_i z hz
    have hy:=Option.some.inj hy
    subst hy
    refine⟨?_,?_⟩
    ·show(match (A.dens ρ m l)[c]? with
      |some v=> V.rk v
      |none=> 0)=_
     rw[ZLp,hz];rfl
    ·show(match (V.seals (A.dens ρ m l))[c]? with
      |some v=> V.rk v
      |none=> 0)=_
     rw[ZTN,ZLp,hz]
     show V.rk (V.shut (ρ z))=_
     rw[ZTP]
   ·cases hy
  |_=> cases hy
theorem Z1x (h:Rel P KD ρ m a f nb g) {xs:List A} {lim:Option (Nat×Nat×Nat×Nat)} (hl:ZRn a xs lim=true) (p c N:Nat) (hlim:lim.map (fun l=> (l.1,l.2.1,V.rk (ρ l.2.2.1)+l.2.2.2))=some (p,c,N)):mes p c (V.seals (A.dens ρ m xs)) < N:=by
 cases lim with
 |none=> cases hlim
 |some l=>
  obtain⟨p',c',x0,d⟩:=l
  cases hlim
  unfold ZRn at hl
  simp only at hl
  split at hl
  ·rename_i x hx
   split at hl
   ·rename_i y hy
    rw[Bool.and_eq_true] at hl
    have hr:=ZGI h hl.2
    simp only[Q.val] at hr
    rw[(ZRr h hx hy hl.1).2]
    show V.rk (ρ y) < V.rk (ρ x0)+d
    omega
   ·cases hl
  ·cases hl
theorem Z16 (h:Rel P KD ρ m a f nb g) {xs:List A} {q:Nat×Nat×Nat} (hl:ZRz a xs q=true):mes q.1 q.2.1 (V.seals (A.dens ρ m xs))≤q.2.2:=by
 unfold ZRz at hl
 split at hl
 ·rename_i x hx
  split at hl
  ·rename_i y hy
   rw[Bool.and_eq_true] at hl
   have hr:=ZGI h hl.2
   simp only[Q.val] at hr
   rw[(ZRr h hx hy hl.1).2]
   omega
  ·cases hl
 ·cases hl
theorem Z15 {post:Option (List V→Prop)} {xs:List A} {r:A×SS}:(ZPw post xs r).1=r.1∧SameS r.2 (ZPw post xs r).2:=by
 cases post with
 |none=> exact⟨rfl,.refl⟩
 |some Q=> exact⟨rfl,.knowB⟩
theorem Z14 {post:Option (List V→Prop)} {xs:List A} {r:A×SS} (h:Rel P KD ρ m r.2 f nb g) (hb:A.bels r.2.nx 0 (xs++[r.1])=true→ZK6 post (A.dens ρ m xs) (A.den ρ m r.1)):Rel P KD ρ m (ZPw post xs r).2 f nb g:=by
 cases post with
 |none=> exact h
 |some Q=>
  show Rel P KD ρ m (r.2.knowB _) f nb g
  unfold SS.knowB
  cases hc:(Fact.pr (fun l=> Q (vns l)) (xs++[r.1])).bel r.2.nx with
  |false=> exact h
  |true=>
   refine h.know hc ?_
   have hc:A.bels r.2.nx 0 (xs++[r.1])=true:=hc
   have hp:Q (vns (A.dens ρ m xs++[A.den ρ m r.1])):=hb hc
   show Q (vns (A.dens ρ (fun _=> 0) (xs++[r.1])))
   rw[A.dens_congr (m:=m) (b:=0) (fun _ _=> rfl) (fun c hc=> absurd hc (Nat.not_lt_zero c)) _ hc,ZLa]
   exact hp
theorem ZGK.callE (h:Rel P KD ρ m a f nb g) {e:Eff} (he:GoodE e) {al:Alt} (hv:ZLh P KD al.r e.v) {xs:List A} (hxs:A.bels a.nx a.blks.length xs=true) (hpo:ZK6 al.q (A.dens ρ m xs) e.v) (hap:ApE al nb e):ZGK P KD ρ m a f nb g e ((ZMP a al (ZK1 xs a al)).1,(ZMP a al (ZK1 xs a al)).2,.call):=by
 obtain⟨ρ',r1,r2,r3,r4,r5,r6⟩:=Z0n h hv he.left
 obtain⟨hlin,hpost⟩:ZPH al.lin (vns (A.dens ρ m xs++[e.v]))∧∀Q,al.post=some Q→Q (vns (A.dens ρ m xs++[e.v])):=hpo
 have hxs':A.dens ρ' m xs=A.dens ρ m xs:=A.dens_congr r1 (fun _ _=> rfl) xs hxs
 have hys:A.dens ρ' m (xs++[(ZKH al.r a).1])=A.dens ρ m xs++[e.v]:=by
  rw[ZLa,hxs']
  show _++[A.den ρ' m (ZKH al.r a).1]=_
  rw[r3]
 have r2:=r2.knows (l:=ZMu (ZKH al.r a).2 (xs++[(ZKH al.r a).1]) al.lin) (ZXg r2 (by rw[hys];exact hlin))
 have hs0:SameS (ZKH al.r a).2 (knows (ZMu (ZKH al.r a).2 (xs++[(ZKH al.r a).1]) al.lin) (ZKH al.r a).2):=.knows
 obtain⟨s1,s2⟩:=Z15 (post:=al.post) (xs:=xs) (r:=((ZKH al.r a).1,knows (ZMu (ZKH al.r a).2 (xs++[(ZKH al.r a).1]) al.lin) (ZKH al.r a).2))
 have r2:=Z14 (post:=al.post) (xs:=xs) (r:=((ZKH al.r a).1,knows (ZMu (ZKH al.r a).2 (xs++[(ZKH al.r a).1]) al.lin) (ZKH al.r a).2)) r2 fun _=> by
  show ZK6 al.post (A.dens ρ' m xs) (A.den ρ' m (ZKH al.r a).1)
  rw[r3,hxs']
  unfold ZK6
  cases hp:al.post with
  |none=> trivial
  |some Q=> exact hpost Q hp
 have r3:A.den ρ' m (ZK1 xs a al).1=e.v:=(congrArg (A.den ρ' m) s1).trans r3
 have r4:a.nx≤(ZK1 xs a al).2.nx:=by
  show a.nx≤(ZPw _ _ _).2.nx
  rw[s2.nx,hs0.nx];exact r4
 have r5:(ZK1 xs a al).2.blks=a.blks:=(s2.blks.trans hs0.blks).trans r5
 have r6:(ZK1 xs a al).2.ap=a.ap:=(s2.ap.trans hs0.ap).trans r6
 have r2:Rel P KD ρ' m (ZK1 xs a al).2 f nb g:=r2
 have mark:∀{nb':Nat} {g':Nat→Blk},Rel P KD ρ' m (ZK1 xs a al).2 f nb' g'→nb≤nb'→(∀w,ApV nb e.nw w→ZLg w nb' g')→
  (ZMP a al (ZK1 xs a al)).1=(ZK1 xs a al).1∧(ZMP a al (ZK1 xs a al)).2.nx=(ZK1 xs a al).2.nx∧(ZMP a al (ZK1 xs a al)).2.blks=(ZK1 xs a al).2.blks∧Rel P KD ρ' m (ZMP a al (ZK1 xs a al)).2 f nb' g':=by
  intro nb' g' hr hnb' hw
  unfold ZMP
  cases hj:al.ap with
  |none=> exact⟨rfl,rfl,rfl,hr⟩
  |some j=>
   simp only
   split
   ·rename_i y hy
    cases hc:Nat.ble a.nx y && Nat.blt y (ZK1 xs a al).2.nx && (ZFS (ZK1 xs a al).2 y).isSome with
    |false=> exact⟨rfl,rfl,rfl,hr⟩
    |true=>
     rw[Bool.and_eq_true,Bool.and_eq_true] at hc
     obtain⟨⟨c1,c2⟩,c3⟩:=hc
     have hden:ZKx e.v j=ρ' y:=by
      rw[←r3]
      refine ZOX r2 hy fun z hz=> ?_
      cases hz
      exact Option.isSome_iff_exists.1 c3
     have hav:=hap j hj
     rw[hden] at hav
     refine⟨rfl,rfl,rfl,hr.addAp (ZGM c2) (hw _ hav) fun z hz q hq=> ?_⟩
     rw[r6] at hz
     have hz1:=h.ap z hz
     rw[r1 z hz1.1]
     rcases hav with hv|⟨cs,len,sz,hv⟩|⟨cs,len,sz,k,hv, -⟩
     ·rw[hv] at hq;cases hq
     ·rw[hv] at hq;cases hq
     ·rw[hv] at hq
      cases hq
      exact hz1.2.lt
   ·exact⟨rfl,rfl,rfl,hr⟩
 rcases he.nw with hw|⟨k,hw⟩
 ·obtain⟨m1,m2,m3,m4⟩:=mark r2 (Nat.le_refl _) fun w haw=> by
   rcases haw with hv|hv|⟨cs,len,sz,k,hv,hk⟩
   ·exact Or.inl hv
   ·exact Or.inr (Or.inl hv)
   ·rw[hw] at hk;cases hk
  refine⟨ρ',m,nb,g,⟨r1,fun _ _=> rfl⟩,by rw[m2];exact r4,.same (m3.trans r5),Nat.le_refl _,by rw[m1];exact r3.symm,m4,fun d=> ⟨d,?_⟩,he.pan,he.rd,he.wr,Or.inl hw⟩
  unfold Eff.apply
  rw[he.wr,hw];rfl
 ·obtain⟨m1,m2,m3,m4⟩:=mark (r2.more (.tok k)) (Nat.le_succ _) fun w haw=> by
   rcases haw with hv|hv|⟨cs,len,sz,k',hv,hk⟩
   ·exact Or.inl hv
   ·exact Or.inr (Or.inl hv)
   ·rw[hw] at hk
    cases hk
    exact Or.inr (Or.inr ⟨_,_,_,_,_,hv,Nat.lt_succ_self _,ZO _ _ _⟩)
  refine⟨ρ',m,nb+1,atB g nb (.tok k),⟨r1,fun _ _=> rfl⟩,by rw[m2];exact r4,.same (m3.trans r5),Nat.le_succ _,by rw[m1];exact r3.symm,m4,fun d=> ⟨d,?_⟩,he.pan,he.rd,he.wr,Or.inr ⟨_,hw⟩⟩
  unfold Eff.apply
  rw[he.wr,hw]
  show(mkH nb g d).new _=_
  rw[Z8]
theorem ZVg (h:Rel P KD ρ m a f nb g) (hKD:∀e,(KD e true).length=(KD e false).length) {fn:Nat} {xs:List A} (hxs:A.bels a.nx a.blks.length xs=true):∀{tab:List CE} {rs:List (A×SS)},(∀e∈tab,CE.ok P KD hint known ρ a.nx e)→ZPQ P KD a fn xs tab=some rs→ZRZ P KD hint known ρ m a f nb g fn (A.dens ρ m xs) rs
 |[],_,_,hr=> by cases hr
 |e::l,rs,ht,hr=> by
  unfold ZPQ at hr
  cases hb:Nat.beq e.f fn && ZMJ P KD a xs e.ps && ZRn a xs e.lim && ZTR e.sm xs && e.pre.all (ZRz a xs) with
  |false=>
   rw[hb] at hr
   exact ZVg h hKD hxs (fun e' he=> ht e' (List.mem_cons_of_mem _ he)) hr
  |true=>
   rw[hb] at hr
   cases hr
   rw[Bool.and_eq_true,Bool.and_eq_true,Bool.and_eq_true,Bool.and_eq_true] at hb
   obtain⟨⟨⟨⟨b1,b2⟩,b3⟩,b4⟩,b5⟩:=hb
   obtain⟨tot, -, -⟩:=ht e (List.mem_cons_self ..)
   obtain⟨s1,s2⟩:=(ZO5 h hKD b2).seals
   refine⟨s2,?_⟩
   obtain⟨ef,e1,e2,al,e0,e3,e4,e5⟩:=tot _ s1 s2 (fun hsm=> by
    unfold ZTR at b4
    rw[hsm] at b4
    have b4:A.beqs xs (xs.take (xs.length / 2)++xs.take (xs.length / 2))=true:=b4
    refine⟨V.seals (A.dens ρ m (xs.take (xs.length / 2))),?_⟩
    rw[←ZTM,←ZLa,←A.beqs_eq b4]) (fun q hq=> Z16 h (List.all_eq_true.1 b5 q hq)) (fun p c N hl=> Z1x h b3 p c N hl) nb
   rw[Nat.eq_of_beq_eq_true b1] at e1
   exact⟨ef,e1,_,List.mem_map_of_mem e0,.callE h e2 e3 hxs (e4.seals (ZO5 h hKD b2)) e5⟩
theorem CE.ok.fwd1 {ρ':Nat→V} {nx nx':Nat} {e:CE} (h:CE.ok P KD hint known ρ nx e) (hr:∀y,y < nx→ρ' y=ρ y) (hn:nx≤nx'):CE.ok P KD hint known ρ' nx' e:=by
 obtain⟨h1,h2,h3⟩:=h
 refine⟨?_,fun l hl=> Nat.lt_of_lt_of_le (h2 l hl) hn,h3⟩
 cases hl:e.lim with
 |none=> rw[hl] at h1;exact h1
 |some l=>
  rw[hl] at h1
  show ZK0 P KD hint known e.f e.ps e.alts e.sm e.pre (some (l.1,l.2.1,V.rk (ρ' l.2.2.1)+l.2.2.2))
  rw[hr _ (h2 l hl)];exact h1
theorem Z2t (v:V):V.lenN (V.shut v)=V.lenN v:=by
 cases v with
 |vs cs n sz o=> cases o <;> rfl
 |_=> rfl
structure More (a:SS) (ρ:Nat→V) (a':SS) (ρ':Nat→V):Prop where
 r:∀y,y < a.nx→ρ' y=ρ y
 nx:a.nx≤a'.nx
 blks:a'.blks=a.blks
 regs:a'.regs=a.regs
 ap:a'.ap=a.ap
theorem More.refl:More a ρ a ρ:=⟨fun _ _=> rfl,Nat.le_refl _,rfl,rfl,rfl⟩
theorem More.trans {a1 a2 a3:SS} {ρ1 ρ2 ρ3:Nat→V} (h:More a1 ρ1 a2 ρ2) (h':More a2 ρ2 a3 ρ3):More a1 ρ1 a3 ρ3:=
 ⟨fun y hy=> (h'.r y (Nat.lt_of_lt_of_le hy h.nx)).trans (h.r y hy),Nat.le_trans h.nx h'.nx,h'.blks.trans h.blks,h'.regs.trans h.regs,h'.ap.trans h.ap⟩
theorem Z1w {ρ':Nat→V} {x y:Nat} (h1:V.lenN (ρ' y)=V.lenN (ρ' x)) (h2:V.rk (ρ' y)=V.rk (ρ' x)):∀F∈ZRm y x,F.ok P KD ρ':=by
 intro F hF
 unfold ZRm at hF
 rcases List.mem_cons.1 hF with rfl|hF
 ·show((V.lenN (ρ' y):Nat):Int) - ((V.lenN (ρ' x):Nat):Int)≤0
  omega
 rcases List.mem_cons.1 hF with rfl|hF
 ·show((V.lenN (ρ' x):Nat):Int) - ((V.lenN (ρ' y):Nat):Int)≤0
  omega
 rcases List.mem_cons.1 hF with rfl|hF
 ·show((V.rk (ρ' y):Nat):Int) - ((V.rk (ρ' x):Nat):Int)≤0
  omega
 rcases List.mem_cons.1 hF with rfl|hF
 ·show((V.rk (ρ' x):Nat):Int) - ((V.rk (ρ' y):Nat):Int)≤0
  omega
 rcases List.mem_cons.1 hF with rfl|hF
 ·show -((V.rk (ρ' y):Nat):Int) - -((V.rk (ρ' x):Nat):Int)≤0
  omega
 ·obtain rfl:=List.mem_singleton.1 hF
  show -((V.rk (ρ' x):Nat):Int) - -((V.rk (ρ' y):Nat):Int)≤0
  omega
mutual
theorem Z2s:∀{x:A} {a:SS} {ρ:Nat→V} {x':A} {a':SS},Rel P KD ρ m a f nb g→x.bel a.nx a.blks.length=true→ZOG x a=some (x',a')→
 ∃ρ',More a ρ a' ρ'∧Rel P KD ρ' m a' f nb g∧V.shut (x.den ρ m)=x'.den ρ' m∧V.pure (x'.den ρ' m)=true∧x'.bel a'.nx a'.blks.length=true
 |.k v,a,ρ,x',a',h,hb,hs=> by
  unfold ZOG at hs
  cases hc:V.pure v && V.beq (V.shut v) v with
  |false=> rw[hc] at hs;cases hs
  |true=>
   rw[hc] at hs
   cases hs
   rw[Bool.and_eq_true] at hc
   exact⟨ρ,.refl,h,V.beq_eq hc.2,hc.1,rfl⟩
 |.s x,a,ρ,x',a',h,hb,hs=> by
  unfold ZOG at hs
  cases hc:ZMw a x with
  |true=>
   rw[hc] at hs
   simp only[cond_true] at hs
   cases hk:ZFS a x with
   |none=> rw[hk] at hs;cases hs
   |some k=>
    rw[hk] at hs
    cases hs
    obtain⟨hp,hlt⟩:=ZRA h hc
    exact⟨ρ,.refl,h,(ZGN h hk).1.shut_pure hp,hp,hb⟩
  |false=>
   rw[hc] at hs
   simp only[cond_false] at hs
   split at hs
   ·rename_i k hk
    cases hs
    obtain⟨ht,hlt⟩:=ZGN h hk
    obtain⟨t1,t2⟩:=ht.shut
    have h1:=h.fresh (v:=V.shut (ρ x)) (i:=some ⟨k,true⟩) fun j hj=> by cases hj;exact⟨t1,fun _=> t2⟩
    have hsm:SameS (a.fresh (some ⟨k,true⟩)) (knows (ZRm a.nx x) (a.fresh (some ⟨k,true⟩))):=.knows
    have on:at1 ρ a.nx (V.shut (ρ x)) a.nx=V.shut (ρ x):=zag _ _ _
    have ox:at1 ρ a.nx (V.shut (ρ x)) x=ρ x:=QF _ _ (by omega)
    refine⟨at1 ρ a.nx (V.shut (ρ x)),⟨fun y hy=> QF _ _ (by omega),?_,hsm.blks,hsm.regs,hsm.ap⟩,h1.knows (Z1w (by rw[on,ox,Z2t]) (by rw[on,ox,ZTP])),on.symm,?_,?_⟩
    ·rw[hsm.nx];exact Nat.le_succ _
    ·show V.pure (at1 ρ a.nx (V.shut (ρ x)) a.nx)=true
     rw[on];exact t2
    ·show Nat.blt a.nx _=true
     rw[hsm.nx];exact ZKy (Nat.lt_succ_self _)
   ·cases hs
 |.len x,a,ρ,x',a',h,hb,hs=> by cases hs;exact⟨ρ,.refl,h,rfl,rfl,hb⟩
 |.lit l n z,a,ρ,x',a',h,hb,hs=> by cases hs;exact⟨ρ,.refl,h,rfl,rfl,hb⟩
 |.ip l x,a,ρ,x',a',h,hb,hs=> by cases hs;exact⟨ρ,.refl,h,rfl,rfl,hb⟩
 |.agg l,a,ρ,x',a',h,hb,hs=> by
  unfold ZOG at hs
  split at hs
  ·rename_i l' a1 hl
   cases hs
   obtain⟨ρ',r1,r2,r3,r4,r5⟩:=ZOH h hb hl
   exact⟨ρ',r1,r2,congrArg V.agg r3,r4,r5⟩
  ·cases hs
 |.fn fi l l',a,ρ,x',a',h,hb,hs=> by
  have hb:(A.bels a.nx a.blks.length l && A.bels a.nx a.blks.length l')=true:=hb
  rw[Bool.and_eq_true] at hb
  unfold ZOG at hs
  split at hs
  ·rename_i k a1 hl
   split at hs
   ·rename_i k' a2 hl'
    cases hs
    obtain⟨ρ1,r1,r2,r3,r4,r5⟩:=ZOH h hb.1 hl
    obtain⟨ρ2,q1,q2,q3,q4,q5⟩:=ZOH r2 (A.bels_le r1.nx (by rw[r1.blks];exact Nat.le_refl _) _ hb.2) hl'
    have e1:A.dens ρ2 m k=A.dens ρ1 m k:=A.dens_congr q1.r (fun _ _=> rfl) _ r5
    have e2:A.dens ρ1 m l'=A.dens ρ m l':=A.dens_congr r1.r (fun _ _=> rfl) _ hb.2
    refine⟨ρ2,r1.trans q1,q2,?_,?_,?_⟩
    ·show V.fn (.func fi) (V.seals (A.dens ρ m l)) (V.seals (A.dens ρ m l'))=V.fn (.func fi) (A.dens ρ2 m k) (A.dens ρ2 m k')
     rw[e1,←r3,←q3,e2]
    ·show(true && V.pures (A.dens ρ2 m k) && V.pures (A.dens ρ2 m k'))=true
     rw[e1,r4,q4];rfl
    ·show(A.bels _ _ k && A.bels _ _ k')=true
     rw[Bool.and_eq_true]
     exact⟨A.bels_le q1.nx (by rw[q1.blks];exact Nat.le_refl _) _ r5,q5⟩
   ·cases hs
  ·cases hs
 |.loc _ _,_,_,_,_,_,_,hs=> by cases hs
 |.tup _,_,_,_,_,_,_,hs=> by cases hs
theorem ZOH:∀{l:List A} {a:SS} {ρ:Nat→V} {l':List A} {a':SS},Rel P KD ρ m a f nb g→A.bels a.nx a.blks.length l=true→ZMY l a=some (l',a')→
 ∃ρ',More a ρ a' ρ'∧Rel P KD ρ' m a' f nb g∧V.seals (A.dens ρ m l)=A.dens ρ' m l'∧V.pures (A.dens ρ' m l')=true∧A.bels a'.nx a'.blks.length l'=true
 |[],a,ρ,l',a',h,hb,hs=> by cases hs;exact⟨ρ,.refl,h,rfl,rfl,rfl⟩
 |x::l,a,ρ,l',a',h,hb,hs=> by
  have hb:(x.bel a.nx a.blks.length && A.bels a.nx a.blks.length l)=true:=hb
  rw[Bool.and_eq_true] at hb
  unfold ZMY at hs
  split at hs
  ·rename_i y a1 hx
   split at hs
   ·rename_i k a2 hl
    cases hs
    obtain⟨ρ1,r1,r2,r3,r4,r5⟩:=Z2s h hb.1 hx
    obtain⟨ρ2,q1,q2,q3,q4,q5⟩:=ZOH r2 (A.bels_le r1.nx (by rw[r1.blks];exact Nat.le_refl _) _ hb.2) hl
    have e1:A.den ρ2 m y=A.den ρ1 m y:=A.den_congr q1.r (fun _ _=> rfl) _ r5
    have e2:A.dens ρ1 m l=A.dens ρ m l:=A.dens_congr r1.r (fun _ _=> rfl) _ hb.2
    refine⟨ρ2,r1.trans q1,q2,?_,?_,?_⟩
    ·show V.shut (x.den ρ m)::V.seals (A.dens ρ m l)=A.den ρ2 m y::A.dens ρ2 m k
     rw[e1,←r3,←q3,e2]
    ·show(V.pure (A.den ρ2 m y) && V.pures (A.dens ρ2 m k))=true
     rw[e1,r4,q4];rfl
    ·show(A.bel _ _ y && A.bels _ _ k)=true
     rw[Bool.and_eq_true]
     exact⟨A.bel_le q1.nx (by rw[q1.blks];exact Nat.le_refl _) _ r5,q5⟩
   ·cases hs
  ·cases hs
end
end
end
section
inductive E1 where
 |nrm
 |ext (id:Nat)
 |ret
 |vc (Q:List V→Prop) (l:List A)
def E1.ex:E1→Ex
 |.nrm=> .normal
 |.ext id=> .exit id
 |.ret=> .ret
 |.vc _ _=> .normal
def E1.real:E1→Bool
 |.vc _ _=> false
 |_=> true
def E1.isN:E1→Bool
 |.nrm=> true
 |_=> false
def ZMB (ex:Option Nat) (len:Nat) (m:Nat→Nat) (nb:Nat) (g g':Nat→Blk):Prop:=∀x,x < nb→ex≠some x→(∀c,c < len→m c≠x)→(∀k,g x≠.tok k)→g' x=g x
structure Fwd (ex:Option Nat) (a:SS) (ρ:Nat→V) (m:Nat→Nat) (nb:Nat) (g:Nat→Blk) (a':SS) (ρ':Nat→V) (m':Nat→Nat) (nb':Nat) (g':Nat→Blk):Prop where
 ext:XExt a ρ m ρ' m'
 nx:a.nx≤a'.nx
 len:ZM5 a a' m' nb
 fr:ZMB ex a.blks.length m nb g g'
 nb:nb≤nb'
structure YC where
 x:Nat
 fn:FuncId
 n:Nat
 regs:List (Nat×A)
 ps:List Tmp
 asg:Code
 body:Code
structure Md where
 rg:Bool
 yc:Option YC
structure YS where
 L:Nat
 d0:Nat
 fo:Nat→V
def ZMU:Nat→Option Code
 |0=> none
 |1=> some .ret
 |k+2=> some (.exit k)
def ZN1:Nat→LoopState
 |0=> .ready
 |_=> .done
structure YRel (yc:YC) (ys:YS) (ρ:Nat→V) (m:Nat→Nat) (a:SS) (nb:Nat) (g:Nat→Blk):Prop where
 lt:ys.L < nb
 nim:∀c,c < a.blks.length→m c≠ys.L
 blk:g ys.L=.loop yc.fn (mkT 20 yc.n ys.fo) yc.ps yc.asg yc.body (ZMU a.st) (ZN1 a.st) ys.d0
 regs:∀t x,look yc.regs t=some x→ys.fo t=x.den ρ m∧x.bel a.nx a.blks.length=true
 sym:ρ yc.x=.fn (.yield ys.L) [] []
 xlt:yc.x < a.nx
def YOk (y:Option YC) (ys:YS) (ρ:Nat→V) (m:Nat→Nat) (a:SS) (nb:Nat) (g:Nat→Blk):Prop:=∀yc,y=some yc→YRel yc ys ρ m a nb g
def ZMm (y:Option YC) (ys:YS):Option Nat:=match y with
 |none=> none
 |some _=> some ys.L
def ZKZ (dl:List D) (len:Nat) (m:Nat→Nat) (nb:Nat) (g:Nat→Blk):Prop:=dl.Nodup∧∀D∈dl,∃r,D=.mark r∧r < nb∧(∀c,c < len→m c≠r)∧g r=.dfr
structure MoreS (md:Md) (ys:YS) (ρ:Nat→V) (m:Nat→Nat) (a:SS) (nb:Nat) (g:Nat→Blk) (dl0 dl:List D):Prop where
 y:YOk md.yc ys ρ m a nb g
 mks:ZKZ dl a.blks.length m nb g
 dl:md.rg=false→dl=dl0
abbrev RunT:=Md→Nat→Nat→Code→SS→Option (List (E1×SS))
def mdI:Md:=⟨false,none⟩
def ys0:YS:=⟨0,0,fun _=> ZmM⟩
def ZLi {α β:Type} (f:α→Option (List β)):List α→Option (List β)
 |[]=> some []
 |x::xs=> match f x,ZLi f xs with
  |some a,some b=> some (a++b)
  |_,_=> none
theorem ZK8 {α β:Type} {f:α→Option (List β)}:∀{l:List α} {r:List β} {x:α},ZLi f l=some r→x∈l→∃s,f x=some s∧∀y∈s,y∈r
 |[],_,_,_,hx=> by cases hx
 |z::l,r,x,h,hx=> by
  unfold ZLi at h
  split at h
  ·rename_i a b ha hb
   cases h
   rcases List.mem_cons.1 hx with rfl|hx
   ·exact⟨a,ha,fun y hy=> List.mem_append_left _ hy⟩
   ·obtain⟨s,h1,h2⟩:=ZK8 hb hx
    exact⟨s,h1,fun y hy=> List.mem_append_right _ (h2 y hy)⟩
  ·cases h
def ZMg:V→Bool
 |.agg _|.tup _|.hs _ _ _ _ _ _=> false
 |v=> V.pure v
def ZRS (b:SS):A→Bool
 |.k v=> ZMg v
 |.s x=> ZMw b x && (ZFS b x).isSome
 |.len _|.lit _ _ _|.ip _ _=> true
 |_=> false
def ZMA (b:SS):A→Bool
 |.k (.agg cs)=> cs.all ZMg
 |.agg l=> l.all (ZRS b)
 |x=> ZRS b x
def cvt (first:Bool) (b:SS) (y:A) (c:SS):Option (A×SS):=
 cond (ZMA b y && y.bel b.nx 0) (some (y,c)) (match y with
  |.s x=> match ZFS b x with
   |some k=> let c':=knows [.c (.l c.nx) (.l x) 0,.c (.l x) (.l c.nx) 0] (c.fresh (some ⟨k, !first⟩))
    some (.s c.nx,cond (first && ZKK b.ap x) {c' with ap:=c.nx::c'.ap} c')
   |none=> none
  |_=> none)
def ZOY (b:SS):List A→SS→Option (List A×SS)
 |[],c=> some ([],c)
 |y::ys,c=> match cvt false b y c with
  |some (x,c1)=> match ZOY b ys c1 with
   |some (xs,c2)=> some (x::xs,c2)
   |none=> none
  |none=> none
def ZYa (P:Program) (n:Nat) (a:SS):ResultVar→Option A
 |.tmp t=> rdA n a (.tmp t)
 |.cell ad t=> match rdA n a (.tmp ad) with
  |some (.loc b off)=> match a.blks[b]? with
   |some (some l)=> cond (Nat.ble off l.length) (ZNT P t (l.drop off)) none
   |_=> none
  |_=> none
def ZNY (P:Program) (n:Nat) (a:SS):List ResultVar→Option (List A)
 |[]=> some []
 |r::rs=> match ZYa P n a r,ZNY P n a rs with
  |some x,some xs=> some (x::xs)
  |_,_=> none
def ZLd:List A→A
 |[x]=> x
 |xs=> .tup xs
def ZME (a b:SS):SS:={regs:=a.regs,blks:=a.blks,nx:=b.nx,syms:=b.syms,fs:=b.fs,ap:=a.ap,st:=a.st}
def ZTr (b:SS):A→Bool
 |.k (.agg _)=> false
 |.k _=> true
 |.s x=> (ZFS b x).isSome
 |.len _|.lit _ _ _|.ip _ _=> true
 |_=> false
def ZXf (a b:SS):List A→Option (A×SS)
 |[y]=> cvt true b y (ZME a b)
 |y::ys=> cond (ZTr b y||ys.all (ZMA b)) (match cvt true b y (ZME a b) with
  |some (x,c1)=> match ZOY b ys c1 with
   |some (xs,c2)=> some (.tup (x::xs),c2)
   |none=> none
  |none=> none) none
 |[]=> some (.tup [],ZME a b)
def ZTb (P:Program) (n:Nat) (res:List ResultVar) (a:SS) (p:E1×SS):Option (List (A×SS)):=
 match p.1 with
 |.ext _=> none
 |.vc _ _=> none
 |_=> match ZNY P n p.2 res with
  |some ys=> match ZXf a p.2 ys with
   |some r=> some [r]
   |none=> none
  |none=> none
def ZO2:Nat→List A→List (Nat×A)
 |_,[]=> []
 |i,x::l=> (i,x)::ZO2 (i+1) l
def ZM0 (a:SS) (xs:List A):SS:={regs:=ZO2 0 xs,blks:=[],nx:=a.nx,syms:=a.syms,fs:=a.fs,ap:=[]}
section
variable (P:Program) (KD:TypeId→Bool→List K) (hint:Hint) (known:Known) (tab:List CE)
def ZSY (run:RunT) (a:SS) (f:Nat) (xs:List A):Option (List (A×SS)):=
 match P.funcs[f]? with
 |some fn=> match fn.body with
  |some c=> cond (Nat.blt fn.ntmps 1048576 && Nat.ble xs.length fn.ntmps && !hint.frame f && !hint.heap f)
   (match ZMY xs a with
   |some (xs',a1)=> cond (A.bels a1.nx 0 xs') (match run mdI f fn.ntmps c (ZM0 a1 xs') with
    |some outs=> ZLi (ZTb P fn.ntmps fn.results.toList a1) outs
    |none=> none) none
   |none=> none) none
  |none=> none
 |none=> none
def ZK7 (P:Program) (KD:TypeId→Bool→List K) (p:E1×SS):Prop:=
 match p.1 with
 |.vc Q l=> ∀ρ m f nb g,Rel P KD ρ m p.2 f nb g→Q (A.dens ρ (fun _=> 0) l)
 |_=> True
def Came (P:Program) (KD:TypeId→Bool→List K) (md:Md) (ys:YS) (dl:List D) (a:SS) (ρ:Nat→V) (m:Nat→Nat) (nb:Nat) (g:Nat→Blk) (n:Nat) (outs:List (E1×SS)) (x:Option (List (Ex×St))):Prop:=
 ∃p∈outs,p.1.real=true∧∃ρ' m' f' nb' g' d' dl',Fwd (ZMm md.yc ys) a ρ m nb g p.2 ρ' m' nb' g'∧Rel P KD ρ' m' p.2 f' nb' g'∧MoreS md ys ρ' m' p.2 nb' g' dl dl'∧x=some [(p.1.ex,S n f' dl' (mkH nb' g' d'))]
def ZN8 (P:Program) (KD:TypeId→Bool→List K) (md:Md) (ys:YS) (dl:List D) (a:SS) (ρ:Nat→V) (m:Nat→Nat) (nb:Nat) (g:Nat→Blk) (n:Nat) (outs:List (E1×SS)) (x:Option (List (Ex×St))):Prop:=(∀p∈outs,ZK7 P KD p)→Came P KD md ys dl a ρ m nb g n outs x
def ZMj (run:RunT):Prop:=
 ∀{md:Md} {ys:YS} {dl:List D} {fn n:Nat} {c:Code} {a:SS} {ρ:Nat→V} {m:Nat→Nat} {f:Nat→V} {nb:Nat} {g:Nat→Blk} {dd:List Nat} {outs:List (E1×SS)} (r:Option Nat),n < 1048576→(md.rg=true→r=none)→Rel P KD ρ m a f nb g→YOk md.yc ys ρ m a nb g→ZKZ dl a.blks.length m nb g→(∀e∈tab,CE.ok P KD hint known ρ a.nx e)→run md fn n c a=some outs→ZN8 P KD md ys dl a ρ m nb g n outs (Qc P hint known ⟨fn,r⟩ c (S n f dl (mkH nb g dd)))
variable {P KD hint known tab}
variable {ρ:Nat→V} {m:Nat→Nat} {a:SS} {f:Nat→V} {nb n:Nat} {g:Nat→Blk}
theorem ZPD {h:H} {d:Nat} {v:V} (hv:ZMg v=true):freeze h (d+1) v=some v:=by
 cases v with
 |vs cs n sz o=>
  cases o with
  |tok r e=> cases hv
  |tight=> rfl
  |lock=> rfl
 |agg _=> cases hv
 |tup _=> cases hv
 |hs _ _ _ _ _ _=> cases hv
 |_=>
  unfold freeze
  exact(if_pos hv).trans rfl
theorem ZYx {h:H} {d:Nat}:∀{vs:List V},vs.all ZMg=true→ZC5 (freeze h (d+1)) vs=some vs
 |[],_=> rfl
 |v::vs,hv=> by
  rw[List.all_cons,Bool.and_eq_true] at hv
  unfold ZC5
  rw[ZPD hv.1,ZYx hv.2]
theorem TK.stab {k:K} {v:V} (h:TK P KD k v) (hp:V.pure v=true):ZMg v=true:=by
 cases h <;> first|rfl|exact hp
theorem ZYv (h:Rel P KD ρ m a f nb g) {x:A} (hx:ZRS a x=true):ZMg (x.den ρ m)=true:=by
 cases x with
 |k v=> exact hx
 |s x=>
  have hx:(ZMw a x && (ZFS a x).isSome)=true:=hx
  rw[Bool.and_eq_true] at hx
  cases hk:ZFS a x with
  |none=> rw[hk] at hx;cases hx.2
  |some k=> exact(ZGN h hk).1.stab (ZRA h hx.1).1
 |len x=> rfl
 |lit l n z=> rfl
 |ip l x=> rfl
 |_=> cases hx
theorem ZYw (h:Rel P KD ρ m a f nb g):∀{l:List A},l.all (ZRS a)=true→(A.dens ρ m l).all ZMg=true
 |[],_=> rfl
 |x::l,hx=> by
  rw[List.all_cons,Bool.and_eq_true] at hx
  show(A.den ρ m x::A.dens ρ m l).all ZMg=true
  rw[List.all_cons,ZYv h hx.1,ZYw h hx.2];rfl
def ZR2 (v:V):Prop:=ZMg v=true∨∃cs,v=.agg cs∧cs.all ZMg=true
theorem ZTS (h:Rel P KD ρ m a f nb g) {x:A} (hx:ZMA a x=true):ZR2 (x.den ρ m):=by
 unfold ZMA at hx
 split at hx
 ·exact Or.inr ⟨_,rfl,hx⟩
 ·exact Or.inr ⟨_,rfl,ZYw h hx⟩
 ·exact Or.inl (ZYv h hx)
theorem ZR2.freeze {v:V} (hv:ZR2 v) (h:H) (d:Nat):Ae.freeze h (d+2) v=some v:=by
 rcases hv with hv|⟨cs,rfl,hv⟩
 ·exact ZPD hv
 ·show(ZC5 (Ae.freeze h (d+1)) cs).map V.agg=_
  rw[ZYx hv];rfl
def First (h1:H) (n:Nat) (v w:V) (nw:List Blk):Prop:=
 ((∀cs len sz r e,v≠.vs cs len sz (.tok r e))∧(∀vs,v≠.tup vs)∧(∀d,freeze h1 (d+2) v=some w)∧nw=[])∨
 (∃cs len sz r e,v=.vs cs len sz (.tok r e)∧((h1.get r=.tok e∧w=.vs cs len sz (.tok n e)∧nw=[.tok e])∨(h1.get r≠.tok e∧w=.vs cs len sz .lock∧nw=[])))
theorem Z2f {h1:H} {n:Nat} {v w:V} {nw:List Blk} (hf:First h1 n v w nw):ZD3 n h1 v=some {v:=w,nw:=nw}:=by
 rcases hf with ⟨h2,h3,h4,rfl⟩|⟨cs,len,sz,r,e,rfl,hc⟩
 ·unfold ZD3
  split
  ·exact absurd rfl (h2 _ _ _ _ _)
  ·exact absurd rfl (h3 _)
  ·exact absurd rfl (h3 _)
  ·rw[h4 58]
 ·unfold ZD3
  simp only
  rcases hc with ⟨h2,rfl,rfl⟩|⟨h2,rfl,rfl⟩
  ·rw[h2];simp
  ·split
   ·rename_i hw hh
    rw[if_neg fun he=> h2 (by rw[hh,he])]
   ·rfl
theorem Z2g {h1:H} {n:Nat} {v w:V} {vs ws:List V} {nw:List Blk} (hf:First h1 n v w nw) (hv:∀d,ZC5 (freeze h1 (d+2)) vs=some ws) (hna:(∀cs,v≠.agg cs)∨∀u∈vs,ZCj u=none):ZD3 n h1 (.tup (v::vs))=some {v:=.tup (w::ws),nw:=nw}:=by
 rcases hf with ⟨h2,h3,h4,rfl⟩|⟨cs,len,sz,r,e,rfl,hc⟩
 ·have:freeze h1 60 (.tup (v::vs))=some (.tup (w::ws)):=by
   show(ZC5 (freeze h1 59) (v::vs)).map V.tup=_
   unfold ZC5
   rw[h4 57,hv 57];rfl
  unfold ZD3
  split
  ·rename_i hh;cases hh
  ·rename_i hh
   cases hh
   exact absurd rfl (h2 _ _ _ _ _)
  ·rename_i hh
   cases hh
   rcases hna with hna|hna
   ·exact absurd rfl (hna _)
   ·have:=hna _ (List.mem_cons_self ..)
    cases this
  ·rw[this]
 ·unfold ZD3
  simp only
  rw[hv 58]
  simp only
  rcases hc with ⟨h2,rfl,rfl⟩|⟨h2,rfl,rfl⟩
  ·rw[h2];simp
  ·split
   ·rename_i hw hh
    rw[if_neg fun he=> h2 (by rw[hh,he])]
   ·rfl
theorem TK.first {k:K} {v:V} (h:TK P KD k v) (h1:H) (n:Nat):∃w nw,First h1 n v w nw∧TK P KD k w∧V.lenN w=V.lenN v∧
 ((nw=[]∧ZCj w=none)∨∃cs len sz e,nw=[.tok e]∧w=.vs cs len sz (.tok n e))∧(v=.nils→w=.nils)∧(∀cs len sz,v=.vs cs len sz .tight→w=.vs cs len sz .tight)∧∀cs len sz r e,v=.vs cs len sz (.tok r e)→h1.get r=.tok e→w=.vs cs len sz (.tok n e)∧nw=[.tok e]:=by
 by_cases hp:V.pure v=true
 ·have hs:=h.stab hp
  refine⟨v,[],Or.inl ⟨fun cs len sz r e hv=> ?_,fun vs hv=> ?_,fun d=> ZPD hs,rfl⟩,h,rfl,Or.inl ⟨rfl,?_⟩,fun hv=> hv,fun cs len sz hv=> hv,fun cs len sz r e hv=> ?_⟩
  ·rw[hv] at hp;cases hp
  ·rw[hv] at hs;cases hs
  ·cases h <;> first|rfl|skip
   rename_i o _ _ _ _ _
   cases o <;> first|rfl|cases hp
  ·rw[hv] at hp;cases hp
 ·cases h <;> first|exact absurd rfl hp|skip
  rename_i e r cells len mx o hz hn hm hpu ht
  cases o with
  |tight=> exact absurd rfl hp
  |lock=> exact absurd rfl hp
  |tok q e'=>
   by_cases hg:h1.get q=.tok e'
   ·refine⟨.vs cells len (ZmI P e) (.tok n e'),[.tok e'],Or.inr ⟨_,_,_,_,_,rfl,Or.inl ⟨hg,rfl,rfl⟩⟩,.vs hz hn hm hpu ht,rfl,Or.inr ⟨_,_,_,_,rfl,rfl⟩,fun hv=> (by cases hv),fun cs len sz hv=> (by cases hv),fun cs len sz r e hv _=> ?_⟩
    cases hv
    exact⟨rfl,rfl⟩
   ·refine⟨.vs cells len (ZmI P e) .lock,[],Or.inr ⟨_,_,_,_,_,rfl,Or.inr ⟨hg,rfl,rfl⟩⟩,.vs hz hn hm hpu ht,rfl,Or.inl ⟨rfl,rfl⟩,fun hv=> (by cases hv),fun cs len sz hv=> (by cases hv),fun cs len sz r e hv hr=> ?_⟩
    cases hv
    exact absurd hr hg
theorem TK.rest {k:K} {v:V} (h:TK P KD k v) (h1:H):∃w,(∀d,freeze h1 (d+2) v=some w)∧TK P KD k w∧V.lenN w=V.lenN v∧V.pure w=true:=by
 by_cases hp:V.pure v=true
 ·exact⟨v,fun d=> ZPD (h.stab hp),h,rfl,hp⟩
 ·cases h <;> first|exact absurd rfl hp|skip
  rename_i e r cells len mx o hz hn hm hpu ht
  cases o with
  |tight=> exact absurd rfl hp
  |lock=> exact absurd rfl hp
  |tok q e'=> exact⟨.vs cells len (ZmI P e) .lock,fun d=> rfl,.vs hz hn hm hpu ht,rfl,rfl⟩
structure Grew (c:SS) (ρ:Nat→V) (nb:Nat) (g:Nat→Blk) (c':SS) (ρ':Nat→V) (nb':Nat) (g':Nat→Blk) (nw:List Blk):Prop where
 r:∀y,y < c.nx→ρ' y=ρ y
 nx:c.nx≤c'.nx
 blks:c'.blks=c.blks
 nw:(nw=[]∧nb'=nb∧g'=g)∨∃e,nw=[.tok e]∧nb'=nb+1∧g'=atB g nb (.tok e)
theorem ZVv {ρ':Nat→V} {x y:Nat} (h1:V.lenN (ρ' y)=V.lenN (ρ' x)):∀F∈([.c (.l y) (.l x) 0,.c (.l x) (.l y) 0]:List Fact),F.ok P KD ρ':=by
 intro F hF
 rcases List.mem_cons.1 hF with rfl|hF
 ·show((V.lenN (ρ' y):Nat):Int) - ((V.lenN (ρ' x):Nat):Int)≤0
  omega
 ·obtain rfl:=List.mem_singleton.1 hF
  show((V.lenN (ρ' x):Nat):Int) - ((V.lenN (ρ' y):Nat):Int)≤0
  omega
variable {ρb ρc:Nat→V} {mb:Nat→Nat} {b:SS} {fb:Nat→V} {nbb:Nat} {gb:Nat→Blk} {c:SS}
theorem ZVl (hb:Rel P KD ρb mb b fb nbb gb) {db:List Nat} (hc:Rel P KD ρb m c f nb g) (hn:c.nx=b.nx) {y x:A} {c':SS} (hr:cvt true b y c=some (x,c')):
 ∃w nw,First (mkH nbb gb db) nb (y.den ρb mb) w nw∧∃ρ' nb' g',Grew c ρb nb g c' ρ' nb' g' nw∧Rel P KD ρ' m c' f nb' g'∧w=x.den ρ' m∧x.bel c'.nx c'.blks.length=true:=by
 unfold cvt at hr
 cases hs:ZMA b y && y.bel b.nx 0 with
 |true=>
  rw[hs] at hr
  cases hr
  rw[Bool.and_eq_true] at hs
  have hv:=ZTS hb hs.1
  have hd:y.den ρb m=y.den ρb mb:=A.den_congr (fun _ _=> rfl) (fun c hc=> absurd hc (Nat.not_lt_zero _)) y hs.2
  refine⟨y.den ρb mb,[],Or.inl ⟨fun cs len sz r e he=> ?_,fun vs he=> ?_,fun d=> hv.freeze _ d,rfl⟩,ρb,nb,g,⟨fun _ _=> rfl,Nat.le_refl _,rfl,Or.inl ⟨rfl,rfl,rfl⟩⟩,hc,hd.symm,A.bel_le (by rw[hn];exact Nat.le_refl _) (Nat.zero_le _) _ hs.2⟩
  ·rw[he] at hv
   rcases hv with hv|⟨_,hv,_⟩ <;> cases hv
  ·rw[he] at hv
   rcases hv with hv|⟨_,hv,_⟩ <;> cases hv
 |false=>
  rw[hs] at hr
  simp only[cond_false] at hr
  split at hr
  ·rename_i z
   split at hr
   ·rename_i k hk
    obtain⟨ht,hlt⟩:=ZGN hb hk
    obtain⟨w,nw,h1,h2,h3,h4,h5,h6,h7⟩:=ht.first (mkH nbb gb db) nb
    refine⟨w,nw,h1,?_⟩
    have hlt':z < c.nx:=by rw[hn];exact hlt
    have hgrow:∃nb' g',((nw=[]∧nb'=nb∧g'=g)∨∃e,nw=[.tok e]∧nb'=nb+1∧g'=atB g nb (.tok e))∧Rel P KD ρb m c f nb' g':=by
     rcases h4 with ⟨e1, -⟩|⟨cs,len,sz,e,e1, -⟩
     ·exact⟨nb,g,Or.inl ⟨e1,rfl,rfl⟩,hc⟩
     ·exact⟨nb+1,_,Or.inr ⟨e,e1,rfl,rfl⟩,hc.more _⟩
    obtain⟨nb',g',g1,g2⟩:=hgrow
    have hfr:=g2.fresh (v:=w) (i:=some ⟨k,false⟩) fun j hj=> by cases hj;exact⟨h2,fun hh=> by cases hh⟩
    have on:at1 ρb c.nx w c.nx=w:=zag _ _ _
    have oz:at1 ρb c.nx w z=ρb z:=QF _ _ (by omega)
    have hkn:=hfr.knows (ZVv (P:=P) (KD:=KD) (x:=z) (y:=c.nx) (by rw[on,oz];exact h3))
    have hsm:SameS (c.fresh (some ⟨k,false⟩)) (knows [.c (.l c.nx) (.l z) 0,.c (.l z) (.l c.nx) 0] (c.fresh (some ⟨k,false⟩))):=.knows
    have hnx:(knows [.c (.l c.nx) (.l z) 0,.c (.l z) (.l c.nx) 0] (c.fresh (some ⟨k,false⟩))).nx=c.nx+1:=hsm.nx
    have hnlt:c.nx < (knows [.c (.l c.nx) (.l z) 0,.c (.l z) (.l c.nx) 0] (c.fresh (some ⟨k,false⟩))).nx:=by rw[hnx];exact Nat.lt_succ_self _
    cases hm:ZKK b.ap z with
    |false=>
     rw[hm] at hr
     cases hr
     refine⟨at1 ρb c.nx w,nb',g',⟨fun y hy=> QF _ _ (by omega),?_,hsm.blks,g1⟩,hkn,on.symm,?_⟩
     ·exact Nat.le_of_lt hnlt
     ·exact ZKy hnlt
    |true=>
     rw[hm] at hr
     cases hr
     refine⟨at1 ρb c.nx w,nb',g',⟨fun y hy=> QF _ _ (by omega),?_,hsm.blks,g1⟩,hkn.addAp ?_ ?_ ?_,on.symm,?_⟩
     ·exact Nat.le_of_lt hnlt
     ·exact hnlt
     ·rw[on]
      rcases(hb.ap z (ZMQ hm)).2 with hv|⟨cs,len,sz,hv⟩|⟨cs,len,sz,r,e,hv,hr1,hr2⟩
      ·exact Or.inl (h5 hv)
      ·exact Or.inr (Or.inl ⟨_,_,_,h6 _ _ _ hv⟩)
      ·obtain⟨e1,e2⟩:=h7 _ _ _ _ _ hv (by rw[Zj hr1];exact hr2)
       rcases g1 with ⟨e3, -⟩|⟨e',e3,rfl,rfl⟩
       ·rw[e2] at e3;cases e3
       ·rw[e2] at e3
        cases e3
        exact Or.inr (Or.inr ⟨_,_,_,nb,e,e1,Nat.lt_succ_self _,ZO _ _ _⟩)
     ·intro u hu q hq
      rw[hsm.ap] at hu
      have hu:u∈c.ap:=hu
      rw[on] at hq
      obtain⟨c1,c2⟩:=hc.ap u hu
      rw[QF _ _ (by omega)]
      rcases h4 with ⟨-,e1⟩|⟨cs,len,sz,e, -,e1⟩
      ·rw[e1] at hq;cases hq
      ·rw[e1] at hq
       cases hq
       exact c2.lt
     ·exact ZKy hnlt
   ·cases hr
  ·cases hr
theorem ZZV (hb:Rel P KD ρb mb b fb nbb gb) {db:List Nat} (hc:Rel P KD ρc m c f nb g) (hn:b.nx≤c.nx) (hρ:∀y,y < b.nx→ρc y=ρb y) {y x:A} {c':SS} (hr:cvt false b y c=some (x,c')):
 ∃w,(∀d,freeze (mkH nbb gb db) (d+2) (y.den ρb mb)=some w)∧∃ρ',Grew c ρc nb g c' ρ' nb g []∧Rel P KD ρ' m c' f nb g∧w=x.den ρ' m∧x.bel c'.nx c'.blks.length=true:=by
 unfold cvt at hr
 cases hs:ZMA b y && y.bel b.nx 0 with
 |true=>
  rw[hs] at hr
  cases hr
  rw[Bool.and_eq_true] at hs
  have hv:=ZTS hb hs.1
  have hd:y.den ρc m=y.den ρb mb:=A.den_congr hρ (fun c hc=> absurd hc (Nat.not_lt_zero _)) y hs.2
  exact⟨y.den ρb mb,fun d=> hv.freeze _ d,ρc,⟨fun _ _=> rfl,Nat.le_refl _,rfl,Or.inl ⟨rfl,rfl,rfl⟩⟩,hc,hd.symm,A.bel_le hn (Nat.zero_le _) _ hs.2⟩
 |false=>
  rw[hs] at hr
  simp only[cond_false] at hr
  split at hr
  ·rename_i z
   split at hr
   ·rename_i k hk
    obtain⟨ht,hlt⟩:=ZGN hb hk
    obtain⟨w,h1,h2,h3,h4⟩:=ht.rest (mkH nbb gb db)
    refine⟨w,h1,?_⟩
    have hlt':z < c.nx:=by omega
    have hfr:=hc.fresh (v:=w) (i:=some ⟨k,true⟩) fun j hj=> by cases hj;exact⟨h2,fun _=> h4⟩
    have on:at1 ρc c.nx w c.nx=w:=zag _ _ _
    have oz:at1 ρc c.nx w z=ρb z:=(QF _ _ (by omega)).trans (hρ z hlt)
    have hkn:=hfr.knows (ZVv (P:=P) (KD:=KD) (x:=z) (y:=c.nx) (by rw[on,oz];exact h3))
    have hsm:SameS (c.fresh (some ⟨k,true⟩)) (knows [.c (.l c.nx) (.l z) 0,.c (.l z) (.l c.nx) 0] (c.fresh (some ⟨k,true⟩))):=.knows
    have hnx:(knows [.c (.l c.nx) (.l z) 0,.c (.l z) (.l c.nx) 0] (c.fresh (some ⟨k,true⟩))).nx=c.nx+1:=hsm.nx
    have hnlt:c.nx < (knows [.c (.l c.nx) (.l z) 0,.c (.l z) (.l c.nx) 0] (c.fresh (some ⟨k,true⟩))).nx:=by rw[hnx];exact Nat.lt_succ_self _
    cases hr
    refine⟨at1 ρc c.nx w,⟨fun y hy=> QF _ _ (by omega),?_,hsm.blks,Or.inl ⟨rfl,rfl,rfl⟩⟩,hkn,on.symm,?_⟩
    ·exact Nat.le_of_lt hnlt
    ·exact ZKy hnlt
   ·cases hr
  ·cases hr
theorem ZVm (hb:Rel P KD ρb mb b fb nbb gb) {db:List Nat}:∀{ys xs:List A} {c c':SS} {ρc:Nat→V},Rel P KD ρc m c f nb g→b.nx≤c.nx→(∀y,y < b.nx→ρc y=ρb y)→ZOY b ys c=some (xs,c')→
 ∃ws,(∀d,ZC5 (freeze (mkH nbb gb db) (d+2)) (A.dens ρb mb ys)=some ws)∧∃ρ',Grew c ρc nb g c' ρ' nb g []∧Rel P KD ρ' m c' f nb g∧ws=A.dens ρ' m xs∧A.bels c'.nx c'.blks.length xs=true
 |[],xs,c,c',ρc,hc,hn,hρ,hr=> by
  cases hr
  exact⟨[],fun d=> rfl,ρc,⟨fun _ _=> rfl,Nat.le_refl _,rfl,Or.inl ⟨rfl,rfl,rfl⟩⟩,hc,rfl,rfl⟩
 |y::ys,xs,c,c',ρc,hc,hn,hρ,hr=> by
  unfold ZOY at hr
  split at hr
  ·rename_i x c1 hx
   split at hr
   ·rename_i xs' c2 hxs
    cases hr
    obtain⟨w,w1,ρ1,r1,r2,r3,r4⟩:=ZZV hb (db:=db) hc hn hρ hx
    obtain⟨ws,v1,ρ2,q1,q2,q3,q4⟩:=ZVm hb (db:=db) r2 (Nat.le_trans hn r1.nx) (fun y hy=> (r1.r y (Nat.lt_of_lt_of_le hy hn)).trans (hρ y hy)) hxs
    refine⟨w::ws,fun d=> ?_,ρ2,⟨fun y hy=> (q1.r y (Nat.lt_of_lt_of_le hy r1.nx)).trans (r1.r y hy),Nat.le_trans r1.nx q1.nx,q1.blks.trans r1.blks,Or.inl ⟨rfl,rfl,rfl⟩⟩,q2,?_,?_⟩
    ·show ZC5 _ (A.den ρb mb y::A.dens ρb mb ys)=_
     unfold ZC5
     rw[w1 d,v1 d]
    ·show _=A.den ρ2 m x::A.dens ρ2 m xs'
     rw[A.den_congr q1.r (fun _ _=> rfl) x r4,r3,q3]
    ·show(x.bel _ _ && A.bels _ _ xs')=true
     rw[Bool.and_eq_true]
     exact⟨A.bel_le q1.nx (by rw[q1.blks];exact Nat.le_refl _) _ r4,q4⟩
   ·cases hr
  ·cases hr
theorem ZYb {ρ:Nat→V} {m:Nat→Nat} {a:SS} {f:Nat→V} {nb n:Nat} {g:Nat→Blk} {d:List Nat} (h:Rel P KD ρ m a f nb g) (hn:n < 1048576):∀{res:List ResultVar} {xs:List A},ZNY P n a res=some xs→ZCk P (S n f [] (mkH nb g d)) res=some (A.dens ρ m xs)
 |[],_,hx=> by cases hx;rfl
 |r::res,xs,hx=> by
  unfold ZNY at hx
  split at hx
  ·rename_i x ys hx1 hys
   cases hx
   have key:ZE3 P (S n f [] (mkH nb g d)) r=some (x.den ρ m):=by
    cases r with
    |tmp t=> exact(ZKY h hn (o:=.tmp t) hx1).1
    |cell ad t=>
     unfold ZYa at hx1
     simp only at hx1
     split at hx1
     ·rename_i b off hl
      split at hx1
      ·rename_i l hbl
       cases hb:Nat.ble off l.length with
       |false=> rw[hb] at hx1;cases hx1
       |true=>
        rw[hb] at hx1
        have hblt:b < a.blks.length:=(List.getElem?_eq_some_iff.1 hbl).1
        have hv:T.get ZmM (mkT 20 n f) ad=.ptr (m b) off:=Option.some.inj (ZKY h hn hl).1
        unfold ZE3
        simp only
        show(match T.get ZmM (mkT 20 n f) ad with
         |.ptr r off=> match (mkH nb g d).get r with
          |.row _ cs=> if off≤cs.length then ZCC P t (cs.drop off) else none
          |_=> none
         |_=> none)=_
        rw[hv]
        simp only
        rw[Zj (h.lt b hblt),(h.blks b l hbl).1]
        simp only
        have:=ZPs (ρ:=ρ) (m:=m) hx1 []
        rw[List.append_nil,ZMF] at this
        rw[if_pos (by rw[ZLb];exact Nat.le_of_ble_eq_true hb),this]
      ·cases hx1
     ·cases hx1
   unfold ZCk
   rw[key,ZYb h hn hys];rfl
  ·cases hx
theorem Z2c {ρ:Nat→V} {m:Nat→Nat} {xs:List A} {h:H}:ZCp (some (A.dens ρ m xs)) h=some [(.ret ((ZLd xs).den ρ m),h)]:=by
 rcases xs with _|⟨x,_|⟨y,xs⟩⟩ <;> rfl
theorem Z1p (hb:Rel P KD ρb mb b fb nbb gb) {db:List Nat} (hc:Rel P KD ρb m (ZME a b) f nb g) {ys:List A} {x:A} {c':SS} (hr:ZXf a b ys=some (x,c')):
 ∃w nw,ZD3 nb (mkH nbb gb db) ((ZLd ys).den ρb mb)=some {v:=w,nw:=nw}∧∃ρ' nb' g',Grew (ZME a b) ρb nb g c' ρ' nb' g' nw∧Rel P KD ρ' m c' f nb' g'∧w=x.den ρ' m:=by
 rcases ys with _|⟨y,_|⟨y',ys⟩⟩
 ·cases hr
  exact⟨.tup [],[],rfl,ρb,nb,g,⟨fun _ _=> rfl,Nat.le_refl _,rfl,Or.inl ⟨rfl,rfl,rfl⟩⟩,hc,rfl⟩
 ·have hr:cvt true b y (ZME a b)=some (x,c'):=hr
  obtain⟨w,nw,h1,ρ',nb',g',h2,h3,h4, -⟩:=ZVl hb (db:=db) hc rfl hr
  exact⟨w,nw,Z2f h1,ρ',nb',g',h2,h3,h4⟩
 ·have hr:cond (ZTr b y||(y'::ys).all (ZMA b)) (match cvt true b y (ZME a b) with
   |some (x,c1)=> match ZOY b (y'::ys) c1 with
    |some (xs,c2)=> some (A.tup (x::xs),c2)
    |none=> none
   |none=> none) none=some (x,c'):=hr
  cases hcn:ZTr b y||(y'::ys).all (ZMA b) with
  |false=> rw[hcn] at hr;cases hr
  |true=>
  rw[hcn] at hr
  simp only[cond_true] at hr
  have hna:(∀cs,y.den ρb mb≠.agg cs)∨∀u∈A.dens ρb mb (y'::ys),ZCj u=none:=by
   rw[Bool.or_eq_true] at hcn
   rcases hcn with hn|hn
   ·left
    intro cs hy
    cases y with
    |agg l=> cases hn
    |k v=>
     have hy:v=.agg cs:=hy
     subst hy
     cases hn
    |s z=>
     have hn:(ZFS b z).isSome=true:=hn
     cases hk:ZFS b z with
     |none=> rw[hk] at hn;cases hn
     |some k=>
      have ht:=(ZGN hb hk).1
      have hy:ρb z=.agg cs:=hy
      rw[hy] at ht
      cases ht
    |len z=> cases hy
    |lit l n z=> cases hy
    |ip l z=> cases hy
    |tup l=> cases hn
    |loc c o=> cases hn
    |fn f l l'=> cases hn
   ·right
    intro u hu
    have:∀(l:List A),l.all (ZMA b)=true→∀u∈A.dens ρb mb l,ZCj u=none:=by
     intro l
     induction l with
     |nil=> intro _ u hu;cases hu
     |cons z l ih=>
      intro hl u hu
      rw[List.all_cons,Bool.and_eq_true] at hl
      rcases List.mem_cons.1 hu with rfl|hu
      ·have hs:=ZTS hb hl.1
       rcases hs with hs|⟨cs,hs, -⟩
       ·cases hzz:A.den ρb mb z with
        |vs c n sz o=>
         rw[hzz] at hs
         cases o with
         |tok r e=> cases hs
         |_=> rfl
        |_=> rfl
       ·rw[hs];rfl
      ·exact ih hl.2 u hu
    exact this _ hn u hu
  split at hr
  ·rename_i x1 c1 hx1
   split at hr
   ·rename_i xs c2 hxs
    cases hr
    obtain⟨w,nw,h1,ρ1,nb',g',h2,h3,h4,h5⟩:=ZVl hb (db:=db) hc rfl hx1
    obtain⟨ws,v1,ρ2,q1,q2,q3,q4⟩:=ZVm hb (db:=db) h3 h2.nx (fun y hy=> h2.r y hy) hxs
    refine⟨.tup (w::ws),nw,Z2g h1 v1 hna,ρ2,nb',g',⟨fun y hy=> (q1.r y (Nat.lt_of_lt_of_le hy h2.nx)).trans (h2.r y hy),Nat.le_trans h2.nx q1.nx,q1.blks.trans h2.blks,h2.nw⟩,q2,?_⟩
    show V.tup (w::ws)=V.tup (A.den ρ2 m x1::A.dens ρ2 m xs)
    rw[A.den_congr q1.r (fun _ _=> rfl) x1 h5,h4,q3]
   ·cases hr
  ·cases hr
theorem ZTm {l:List A}:∀{i t:Nat} {x:A},look (ZO2 i l) t=some x→i≤t∧l[t - i]?=some x:=by
 induction l with
 |nil=> intro i t x h;cases h
 |cons y l ih=>
  intro i t x h
  have h:look ((i,y)::ZO2 (i+1) l) t=some x:=h
  rw[ZMO] at h
  by_cases he:t=i
  ·rw[if_pos he] at h
   cases h
   subst he
   exact⟨Nat.le_refl _,by rw[Nat.sub_self];rfl⟩
  ·rw[if_neg he] at h
   obtain⟨h1,h2⟩:=ih h
   refine⟨by omega,?_⟩
   rw[show t - i=(t - (i+1))+1 by omega,List.getElem?_cons_succ]
   exact h2
theorem ZPP:∀{l:List A} {i n b:Nat} {x:A},A.bels n b l=true→l[i]?=some x→x.bel n b=true
 |[],_,_,_,_,_,h=> by simp at h
 |y::l,i,n,b,x,hb,h=> by
  have hb:(y.bel n b && A.bels n b l)=true:=hb
  rw[Bool.and_eq_true] at hb
  cases i with
  |zero=> cases h;exact hb.1
  |succ i=> exact ZPP hb.2 h
theorem ZYp:∀(args:List V) (i:Nat) (f:Nat→V) (t:Nat),t < i→ZCl args i f t=f t
 |[],_,_,_,_=> rfl
 |v::vs,i,f,t,h=> by
  show ZCl vs (i+1) (at1 f i v) t=_
  rw[ZYp vs (i+1) _ t (by omega),QF _ _ (by omega)]
theorem ZRN:∀(args:List V) (i:Nat) (f:Nat→V) (k:Nat) (v:V),args[k]?=some v→ZCl args i f (i+k)=v
 |[],_,_,_,_,h=> by simp at h
 |w::vs,i,f,0,v,h=> by
  have h:w=v:=by simpa using h
  show ZCl vs (i+1) (at1 f i w) i=_
  rw[ZYp vs (i+1) _ i (by omega),zag,h]
 |w::vs,i,f,k+1,v,h=> by
  rw[List.getElem?_cons_succ] at h
  show ZCl vs (i+1) (at1 f i w) (i+(k+1))=_
  rw[show i+(k+1)=i+1+k by omega]
  exact ZRN vs (i+1) _ k v h
theorem ZZL {f:FuncId} {args:List V} {v:V} {h1:H} {n:Nat} {e:Eff} (hk:known.call f args=none) (hh:hint.heap f=false) (hc:(EV P hint known).call f args H.empty=some [(.ret v,h1)]) (he:ZD3 n h1 v=some e):ZC3 hint known (EV P hint known) f args n=some [e]:=by
 unfold ZC3
 rw[hk]
 simp only
 rw[hc]
 have hl:ZE0 hint f n (.ret v,h1)=some e:=by
  show(if hint.heap f then _ else _)=_
  rw[if_neg (by rw[hh];simp),he]
 show(match ZCT (ZE0 hint f n) [(.ret v,h1)] with
  |.some es=> some (oneOf es)
  |none=> none)=_
 unfold ZCT
 rw[hl];rfl
theorem Rel.frame {g':Nat→Blk} (h:Rel P KD ρ m a f nb g) (hg:∀(b:Nat) (l:List A),a.blks[b]?=some (some l)→g' (m b)=g (m b)) (ht:∀r k,g r=.tok k→g' r=.tok k):Rel P KD ρ m a f nb g' where
 regs:=h.regs
 blks b l hl:=⟨by rw[hg b l hl];exact(h.blks b l hl).1,(h.blks b l hl).2⟩
 inj:=h.inj
 lt:=h.lt
 syms:=h.syms
 fs:=h.fs
 ap x hx:=by
  refine⟨(h.ap x hx).1,?_⟩
  rcases(h.ap x hx).2 with h1|h1|⟨cs,len,sz,q,k,h1,h2,h3⟩
  ·exact Or.inl h1
  ·exact Or.inr (Or.inl h1)
  ·exact Or.inr (Or.inr ⟨cs,len,sz,q,k,h1,h2,ht q k h3⟩)
 apn:=h.apn
theorem ZZj {E:Ev} {len:Nat} {m:Nat→Nat}:∀{dl:List D} {nb:Nat} {g:Nat→Blk} {d:List Nat},ZKZ dl len m nb g→∃g' d',(∀r,g r≠.dfr→g' r=g r)∧ZDh P known E dl none (mkH nb g d)=some (none,mkH nb g' d')
 |[],nb,g,d,_=> ⟨g,d,fun _ _=> rfl,rfl⟩
 |D::dl,nb,g,d,h=> by
  obtain⟨r,rfl,h1,h2,h3⟩:=h.2 D (List.mem_cons_self ..)
  have hnd:=List.nodup_cons.1 h.1
  have hm:ZKZ dl len m nb (atB g r .gone):=⟨hnd.2,fun D hD=> by
   obtain⟨q,rfl,q1,q2,q3⟩:=h.2 D (List.mem_cons_of_mem _ hD)
   refine⟨q,rfl,q1,q2,?_⟩
   rw[ZN _ _ (fun hh=> by subst hh;exact hnd.1 hD)]
   exact q3⟩
  obtain⟨g',d',e1,e2⟩:=ZZj (E:=E) (d:=r::d) hm
  refine⟨g',d',fun q hq=> ?_,?_⟩
  ·have hqr:q≠r:=fun hh=> by subst hh;exact hq h3
   rw[e1 q (by rw[ZN _ _ hqr];exact hq),ZN _ _ hqr]
  ·unfold ZDh
   rw[Zj h1,h3]
   simp only
   rw[zYT]
   exact e2
theorem ZYc {regs:T V} {dl:List D} {h:H}:∀l:List ResultVar,ZCk P ⟨regs,dl,h⟩ l=ZCk P ⟨regs,[],h⟩ l
 |[]=> rfl
 |r::l=> by
  have e:ZE3 P ⟨regs,dl,h⟩ r=ZE3 P ⟨regs,[],h⟩ r:=by cases r <;> rfl
  unfold ZCk
  rw[e,ZYc l]
theorem ZZX {fn:Func} {l:List ResultVar} (hl:fn.results.toList=l) {x:Ex} (hx:x=.ret∨x=.normal) {len:Nat} {m:Nat→Nat} {dl:List D} {nb:Nat} {g:Nat→Blk} {d:List Nat} (hm:ZKZ dl len m nb g) (regs:T V):
 ∃g' d',(∀r,g r≠.dfr→g' r=g r)∧Zm1 P hint known fn (some [(x,⟨regs,dl,mkH nb g d⟩)])=ZCp (ZCk P ⟨regs,[],mkH nb g' d'⟩ l) (mkH nb g' d'):=by
 obtain⟨g',d',e1,e2⟩:=ZZj (P:=P) (known:=known) (E:=EV P hint known) (d:=d) hm
 refine⟨g',d',e1,?_⟩
 have h1:ZDD P known (EV P hint known) fn (x,⟨regs,dl,mkH nb g d⟩)=match ZD2 P fn ⟨regs,dl,mkH nb g' d'⟩ with
  |some v=> some (.ret v,mkH nb g' d')
  |none=> none:=by
  unfold ZDD
  rcases hx with rfl|rfl <;> (simp only;rw[e2];rfl)
 show ZCT _ _=_
 unfold ZCT
 rw[h1]
 unfold ZD2 ZCp
 rw[hl,ZYc]
 cases ZCk P ⟨regs,[],mkH nb g' d'⟩ l with
 |none=> rfl
 |some vs=>
  rcases vs with _|⟨v,_|⟨w,vs⟩⟩ <;> rfl
theorem ZYk {md:Md} (hmd:md.yc=none) {run:RunT} (hrun:ZMj P KD hint known tab run) {fi:Nat} {fn:Func} {c:Code} (hf:P.funcs[fi]?=some fn) (hc:fn.body=some c) (hn:fn.ntmps < 1048576) (hfr:hint.frame fi=false)
 {I:SS} {ρ:Nat→V} {m:Nat→Nat} {args:List V} (hlen:args.length≤fn.ntmps) (hI:Rel P KD ρ m I (ZCl args 0 fun _=> ZmM) 0 (fun _=> .gone)) (ht:∀e∈tab,CE.ok P KD hint known ρ I.nx e) {outs:List (E1×SS)} (ho:run md fi fn.ntmps c I=some outs) (hv:∀p∈outs,ZK7 P KD p):
 ∃p∈outs,p.1.real=true∧∃ρ' m' f' nb' g' d',Fwd none I ρ m 0 (fun _=> .gone) p.2 ρ' m' nb' g'∧Rel P KD ρ' m' p.2 f' nb' g'∧∀ys,(p.1.ex=.ret∨p.1.ex=.normal)→ZNY P fn.ntmps p.2 fn.results.toList=some ys→
  (EV P hint known).call fi args H.empty=some [(.ret ((ZLd ys).den ρ' m'),mkH nb' g' d')]:=by
 obtain⟨p,p1,p0,ρ',m',f',nb',g',d',dl',p2,p3,pm,p4⟩:=hrun (ys:=ys0) (dl:=[]) (dd:=[]) none hn (fun _=> rfl) hI (fun yc hy=> by rw[hmd] at hy;cases hy) ⟨List.nodup_nil,fun D hD=> by cases hD⟩ ht ho hv
 by_cases hex:p.1.ex=.ret∨p.1.ex=.normal
 ·obtain⟨g2,d2,e1,e2⟩:=ZZX (P:=P) (hint:=hint) (known:=known) (fn:=fn) rfl hex (d:=d') pm.mks (mkT 20 fn.ntmps f')
  have hr2:Rel P KD ρ' m' p.2 f' nb' g2:=p3.frame (fun b l hl=> e1 _ (by rw[(p3.blks b l hl).1];exact fun hh=> by cases hh)) fun r k hk=> by rw[e1 r (by rw[hk];exact fun hh=> by cases hh)];exact hk
  refine⟨p,p1,p0,ρ',m',f',nb',g2,d2,⟨p2.ext,p2.nx,p2.len,fun x hx=> absurd hx (Nat.not_lt_zero x),p2.nb⟩,hr2,fun ys hex hys=> ?_⟩
  rw[Qu hf hc rfl hn hfr hlen,zDI,p4]
  have hrs:ZCk P ⟨mkT 20 fn.ntmps f',[],mkH nb' g2 d2⟩ fn.results.toList=some (A.dens ρ' m' ys):=ZYb hr2 hn hys
  rw[hrs,Z2c] at e2
  exact e2
 ·exact⟨p,p1,p0,ρ',m',f',nb',g',d',⟨p2.ext,p2.nx,p2.len,fun x hx=> absurd hx (Nat.not_lt_zero x),p2.nb⟩,p3,fun ys hh=> absurd hh hex⟩
theorem Z0t {run:RunT} (hrun:ZMj P KD hint known tab run) (hkn:∀f args,hint.heap f=false→known.call f args=none) (h:Rel P KD ρ m a f nb g) (ht:∀e∈tab,CE.ok P KD hint known ρ a.nx e) {fi:Nat} {xs:List A} (hxs:A.bels a.nx a.blks.length xs=true) {rs:List (A×SS)} (hr:ZSY P hint run a fi xs=some rs):
 ZRZ P KD hint known ρ m a f nb g fi (A.dens ρ m xs) rs:=by
 unfold ZSY at hr
 split at hr
 ·rename_i fn hfn
  split at hr
  ·rename_i c hbody
   cases hb:Nat.blt fn.ntmps 1048576 && Nat.ble xs.length fn.ntmps && !hint.frame fi && !hint.heap fi with
   |false=> rw[hb] at hr;cases hr
   |true=>
    rw[hb] at hr
    simp only[cond_true] at hr
    rw[Bool.and_eq_true,Bool.and_eq_true,Bool.and_eq_true] at hb
    obtain⟨⟨⟨b1,b2⟩,b3⟩,b4⟩:=hb
    have b3:hint.frame fi=false:=by simpa using b3
    have b4:hint.heap fi=false:=by simpa using b4
    split at hr
    ·rename_i xs' a1 hseal
     cases hbl:A.bels a1.nx 0 xs' with
     |false=> rw[hbl] at hr;cases hr
     |true=>
      rw[hbl] at hr
      simp only[cond_true] at hr
      split at hr
      ·rename_i outs houts
       obtain⟨ρ1,s1,s2,s3,s4,s5⟩:=ZOH h hxs hseal
       refine⟨by rw[s3];exact s4,?_⟩
       generalize hargs:V.seals (A.dens ρ m xs)=args at s3
       have hlen:args.length=xs'.length:=by rw[s3,ZLb]
       have hlx:xs'.length=xs.length:=by
        have e1:∀l:List V,(V.seals l).length=l.length:=by
         intro l
         induction l with
         |nil=> rfl
         |cons v l ih=> show(V.seals l).length+1=_;rw[ih];rfl
        rw[←hlen,←hargs,e1,ZLb]
       have hd0:∀x:A,x.bel a1.nx 0=true→x.den ρ1 (fun _=> 0)=x.den ρ1 m:=fun x hx=> A.den_congr (fun _ _=> rfl) (fun c hc=> absurd hc (Nat.not_lt_zero _)) x hx
       have hI:Rel P KD ρ1 (fun _=> 0) (ZM0 a1 xs') (ZCl args 0 fun _=> ZmM) 0 (fun _=> .gone):={
        regs:=fun t x hx=> by
         obtain⟨-,h2⟩:=ZTm hx
         rw[Nat.sub_zero] at h2
         have hbx:=ZPP hbl h2
         refine⟨?_,hbx⟩
         have:=ZRN args 0 (fun _=> ZmM) t (x.den ρ1 m) (by rw[s3,ZLp,h2];rfl)
         rw[Nat.zero_add] at this
         rw[this,hd0 x hbx]
        blks:=fun b l hl=> by simp[ZM0] at hl
        inj:=fun b c hb=> absurd hb (Nat.not_lt_zero _)
        lt:=fun b hb=> absurd hb (Nat.not_lt_zero _)
        syms:=s2.syms
        fs:=s2.fs
        ap:=fun x hx=> by cases hx
        apn:=fun x hx=> by cases hx}
       obtain⟨p,p1,p0,ρ',m',f',nb',g',d',p2,p3,p4⟩:=ZYk (md:=mdI) rfl hrun hfn hbody (ZGM b1) b3 (by rw[hlen,hlx];exact Nat.le_of_ble_eq_true b2) hI (fun e he=> (ht e he).fwd1 s1.r s1.nx) houts (fun p hp=> by
        obtain⟨s,hs, -⟩:=ZK8 hr hp
        unfold ZTb at hs
        unfold ZK7
        split
        ·rename_i hp1;rw[hp1] at hs;cases hs
        ·trivial)
       obtain⟨s,hs,hsub⟩:=ZK8 hr p1
       unfold ZTb at hs
       split at hs
       ·cases hs
       ·cases hs
       ·rename_i hne hne2
        split at hs
        ·rename_i ys hys
         split at hs
         ·rename_i r hlv
          cases hs
          obtain⟨x,c'⟩:=r
          have hex:p.1.ex=.ret∨p.1.ex=.normal:=by
           cases hp1:p.1 with
           |nrm=> exact Or.inr rfl
           |ret=> exact Or.inl rfl
           |ext id=> exact absurd hp1 (hne id)
           |vc Q l=> exact absurd hp1 (hne2 Q l)
          have hcall:=p4 ys hex hys
          have hnx:a1.nx≤p.2.nx:=p2.nx
          have hback:Rel P KD ρ' m (ZME a1 p.2) f nb g:=by
           have h0:=s2.ext (ρ':=ρ') fun y hy=> p2.ext.r y hy
           exact {
            regs:=fun t x hx=> ⟨(h0.regs t x hx).1,A.bel_le hnx (Nat.le_refl _) x (h0.regs t x hx).2⟩
            blks:=fun b l hl=> ⟨(h0.blks b l hl).1,A.bels_le hnx (Nat.le_refl _) l (h0.blks b l hl).2⟩
            inj:=h0.inj
            lt:=h0.lt
            syms:=p3.syms
            fs:=p3.fs
            ap:=fun x hx=> ⟨Nat.lt_of_lt_of_le (h0.ap x hx).1 hnx,(h0.ap x hx).2⟩
            apn:=h0.apn}
          obtain⟨w,nw,l1,ρ2,nb2,g2,l2,l3,l4⟩:=Z1p p3 (db:=d') hback hlv
          refine⟨{v:=w,nw:=nw},ZZL (hkn fi args b4) b4 hcall l1,_,hsub _ (List.mem_cons_self ..),ρ2,m,nb2,g2,⟨fun y hy=> ?_,fun _ _=> rfl⟩,?_,.same (l2.blks.trans s1.blks),?_,l4,l3,fun d=> ?_,rfl,rfl,rfl,?_⟩
          ·have h1:y < a1.nx:=Nat.lt_of_lt_of_le hy s1.nx
           rw[l2.r y (Nat.lt_of_lt_of_le h1 hnx),p2.ext.r y h1,s1.r y hy]
          ·exact Nat.le_trans s1.nx (Nat.le_trans hnx l2.nx)
          ·rcases l2.nw with ⟨-,rfl, -⟩|⟨e, -,rfl, -⟩
           ·exact Nat.le_refl _
           ·exact Nat.le_succ _
          ·rcases l2.nw with ⟨rfl,rfl,rfl⟩|⟨e,rfl,rfl,rfl⟩
           ·exact⟨d,rfl⟩
           ·refine⟨d,?_⟩
            show(mkH nb g d).new _=_
            rw[Z8]
          ·rcases l2.nw with ⟨rfl, -, -⟩|⟨e,rfl, -, -⟩
           ·exact Or.inl rfl
           ·exact Or.inr ⟨_,rfl⟩
         ·cases hs
        ·cases hs
      ·cases hr
    ·cases hr
  ·cases hr
 ·cases hr
end
end
end
end Go.Ae
end
