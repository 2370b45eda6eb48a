/- The abstract evaluator: maps, calls. -/
import Derived.Test.YtapdblnejhijnaaGreatA3
set_option linter.all false
noncomputable section
namespace Go.Ae
section
section
variable {P:Program}
def ZG4:Value→Bool
 |.int _ _|.string _|.bool _=> true
 |_=> false
theorem zOC {I J:Imm} {A B:At} {d:TypeDesc} {v:V} (h:ZEG d v=true) {x y:Value} (hx:vr I A v x) (hy:vr J B v y):x=y∧ZG4 x=true:=by
 unfold ZEG at h
 split at h
 ·simp only[vr] at hx hy;subst hx hy;exact⟨rfl,rfl⟩
 ·simp only[vr] at hx hy;subst hx hy;exact⟨rfl,rfl⟩
 ·simp only[vr] at hx hy;subst hx hy;exact⟨rfl,rfl⟩
 ·cases h
theorem zPG {a b:ByteArray} (h:a.data.toList=b.data.toList):a=b:=by
 cases a;cases b
 simp only at h
 congr
 exact Array.ext' h
theorem zOA {a b:V} (h:ZFZ a b=true):a=b∧∃d,ZEG d a=true:=by
 unfold ZFZ at h
 split at h
 ·rw[Bool.and_eq_true,decide_eq_true_eq,decide_eq_true_eq] at h
  obtain⟨rfl,rfl⟩:=h
  exact⟨rfl,.int .i64,rfl⟩
 ·rw[decide_eq_true_eq] at h
  exact⟨by rw[zPG h],.string,rfl⟩
 ·rw[beq_iff_eq] at h;subst h
  exact⟨rfl,.bool,rfl⟩
 ·cases h
theorem zOB {I J:Imm} {A B:At}:∀{as bs:List V} {xs ys:List Value},ZF0 as bs=true→vrl I A as xs→vrl J B bs ys→xs=ys∧xs.all ZG4=true
 |[],[],xs,ys,_,hx,hy=> by simp[vrl] at hx hy;simp[hx,hy]
 |[],_::_,_,_,h,_,_=> by cases h
 |_::_,[],_,_,h,_,_=> by cases h
 |a::as,b::bs,xs,ys,h,hx,hy=> by
  simp only[ZF0,Bool.and_eq_true] at h
  obtain⟨rfl,d,hd⟩:=zOA h.1
  simp only[vrl] at hx hy
  obtain⟨x,xs,rfl,hx1,hx2⟩:=hx
  obtain⟨y,ys,rfl,hy1,hy2⟩:=hy
  obtain⟨rfl,hs⟩:=zOC hd hx1 hy1
  obtain⟨rfl,ht⟩:=zOB h.2 hx2 hy2
  exact⟨rfl,by simp[hs,ht]⟩
theorem zOz (n:Nat) {x:Value} (h:ZG4 x=true):Instr.sameBits n x x=true:=by
 cases x <;> simp[ZG4] at h <;> cases n <;> simp[Instr.sameBits,beq_toListBytes]
theorem zYQ {I J:Imm} {A B:At} {k k':V} (h:sameKey k k'=true) {x y:Value} (hx:vr I A k x) (hy:vr J B k' y):Instr.sameBits 10000 y x=true:=by
 unfold sameKey at h
 split at h
 ·simp only[vr] at hx hy
  obtain⟨xs,rfl,hx⟩:=hx
  obtain⟨ys,rfl,hy⟩:=hy
  obtain⟨e,hs⟩:=zOB h hx hy
  have e':xs=ys:=Array.ext' e
  subst e'
  show(xs.size==xs.size && (xs.toList.zip xs.toList).all fun (p:Value×Value)=> Instr.sameBits 9999 p.1 p.2)=true
  rw[Bool.and_eq_true]
  refine⟨by simp,?_⟩
  rw[List.all_eq_true] at hs⊢
  intro p hp
  obtain⟨a,b⟩:=p
  have:=(List.of_mem_zip hp).1
  have hab:a=b:=by
   rw[List.zip_eq_zipWith] at hp
   simp only[List.mem_iff_getElem?] at hp
   obtain⟨i,hi⟩:=hp
   rw[List.getElem?_zipWith] at hi
   cases hx':xs.toList[i]? with
   |none=> rw[hx'] at hi;cases hi
   |some z=> rw[hx'] at hi;simp at hi;exact hi.1.symm.trans hi.2
  subst hab
  exact zOz _ (hs a this)
 ·obtain⟨rfl,d,hd⟩:=zOA h
  obtain⟨rfl,hs⟩:=zOC hd hx hy
  exact zOz _ hs
theorem zDy {d:TypeDesc} {t:TypeId} {v:V} {x:Value} {I:Imm} {A:At} (ht:und P t=d) (h:ZEG d v=true) (hx:vr I A v x) (empty:Bool) (m:Nat) (w:World):(Instr.checkKey empty (m+1) t x).run P w=.ok () w:=by
 unfold ZEG at h
 split at h
 ·simp only[vr] at hx;subst hx
  simp only[Instr.checkKey,Sem.run_bind,zn ht (by simp) w,Result.andThen];rfl
 ·simp only[vr] at hx;subst hx
  simp only[Instr.checkKey,Sem.run_bind,zn ht (by simp) w,Result.andThen];rfl
 ·simp only[vr] at hx;subst hx
  simp only[Instr.checkKey,Sem.run_bind,zn ht (by simp) w,Result.andThen];rfl
 ·cases h
theorem zYl {d:TypeDesc} {t:TypeId} {v:V} (ht:und P t=d) (h:ZEG d v=true) {x:Value} {xs:Array Value} {i:Nat} (hi:xs[i]?=some x) (w:World):(part t xs i).run P w=.ok x w:=by
 have hu:okU P t=true:=by
  unfold ZEG at h
  split at h
  ·exact zbX ht (by simp)
  ·exact zbX ht (by simp)
  ·exact zbX ht (by simp)
  ·cases h
 have ha:ZDM P t=false:=by
  unfold ZDM
  rw[ht]
  unfold ZEG at h
  split at h <;> first|rfl|cases h
 unfold part
 rw[Sem.run_bind,zwr hu w]
 simp only[Result.andThen,ha,Bool.false_eq_true,if_false,hi,Sem.run_pure]
theorem ZIE {I:Imm} {A:At} (empty:Bool) (m:Nat) (w:World) (all:Array Value):∀(fs:List Field) (i:Nat) (cs:List V) (xs:List Value),ZGe P fs i cs=true→vrl I A cs xs→all.toList.drop i=xs→
 (forIn (m:=Sem) fs PUnit.unit fun f _=> (do
  if f.name≠ "_" then Instr.checkKey empty (m+1) f.type (←part f.type all f.offset)
  pure (ForInStep.yield PUnit.unit))).run P w=.ok PUnit.unit w
 |[],i,cs,xs,_,_,_=> by simp
 |f::fs,i,cs,xs,h,hl,hd=> by
  cases cs with
  |nil=> simp[ZGe] at h
  |cons v cs=>
   simp only[ZGe,Bool.and_eq_true,decide_eq_true_eq] at h
   obtain⟨⟨⟨h1,h2⟩,h3⟩,h4⟩:=h
   have h1:=Nat.eq_of_beq_eq_true h1
   simp only[vrl] at hl
   obtain⟨x,xs,rfl,hv,hl⟩:=hl
   have hx:all[f.offset]?=some x:=by
    have:all.toList[i]?=some x:=by
     have:=congrArg (fun l:List Value=> l[0]?) hd
     simpa using this
    rw[h1];simpa using this
   have hp:=zYl rfl h3 hx w
   have hc:=zDy (P:=P) rfl h3 hv empty m w
   rw[List.forIn_cons]
   simp only[Sem.run_bind,if_pos h2,hp,hc,Result.andThen,Sem.run_pure]
   exact ZIE empty m w all fs (i+1) cs xs h4 hl (by rw[←List.drop_drop,hd];rfl)
theorem zyQ {I:Imm} {A:At} {t:TypeId} {v:V} {x:Value} (h:ZEd P t v=true) (hx:vr I A v x) (empty:Bool) (w:World):(Instr.checkKey empty 10000 t x).run P w=.ok () w:=by
 unfold ZEd at h
 split at h
 ·rename_i fs cs hd
  simp only[vr] at hx
  obtain⟨xs,rfl,hl⟩:=hx
  have:=ZIE (P:=P) empty 9998 w xs fs.toList 0 cs xs.toList h hl rfl
  rw[show(10000:Nat)=9998+1+1 from rfl]
  unfold Instr.checkKey
  simp only[Sem.run_bind,zn hd (by simp) w,Result.andThen]
  rw[←Array.forIn_toList]
  rw[this]
  rfl
 ·exact zDy rfl h hx empty 9999 w
end
section
variable {P:Program}
theorem zwL {I:Imm} {A:At}:∀{l:List (V×V)} {es:List MapEntry},ZCZ I A l es→∀{i:Nat} {k v:V},l[i]?=some (k,v)→∃e,es[i]?=some e∧vr I A k e.key∧vr I A v e.val
 |[],_,_,i,k,v,h=> by simp at h
 |(k0,v0)::l,_,⟨e,es',he,h1,h2,h3⟩,i,k,v,h=> by
  subst he
  cases i with
  |zero=> simp at h;obtain⟨rfl,rfl⟩:=h;exact⟨e,rfl,h1,h2⟩
  |succ i=> simp at h;simpa using zwL h3 h
theorem zDK {I:Imm} {A:At}:∀{l:List (V×V)} {es:List MapEntry},es.length=l.length→(∀(i:Nat) (k v:V),l[i]?=some (k,v)→∃e,es[i]?=some e∧vr I A k e.key∧vr I A v e.val)→ZCZ I A l es
 |[],es,hl,_=> by simp only[ZCZ];simpa using hl
 |(k,v)::l,es,hl,h=> by
  cases es with
  |nil=> simp at hl
  |cons e es=>
   obtain⟨e',he,h1,h2⟩:=h 0 k v rfl
   simp at he;subst he
   exact⟨e,es,rfl,h1,h2,zDK (by simpa using hl) (fun i k v hh=> by simpa using h (i+1) k v (by simpa using hh))⟩
theorem zYR {I:Imm} {A:At} {t:TypeId} {k x:V} {k' x':Value} (hk:vr I A k k') (hx:vr I A x x') {b c:Bool} (h:eqV P 100 t k x=some b) (hs:Instr.sameNow (und P t) k' x'=some c):c=b:=by
 unfold Instr.sameNow at hs
 split at hs
 ·rename_i hd
  obtain rfl:=zkt hk
  obtain rfl:=zkt hx
  simp only[eqV,hd] at h
  split at hs
  ·rename_i hkk
   rw[if_pos hkk] at h
   exact(Option.some.inj hs).symm.trans (Option.some.inj h)
  ·cases hs
 ·rename_i hd
  obtain rfl:=zkw hk
  obtain rfl:=zkw hx
  simp only[eqV,hd] at h
  rw[←Option.some.inj hs,←Option.some.inj h,beq_toListBytes,zkH,zkH]
 ·rename_i hd
  have e1:∀{v:V} {b:Bool},vr I A v (.bool b)→v=.bool b:=fun {v b} hv=> by
   cases v <;> simp[vr] at hv⊢;exact hv.symm
  obtain rfl:=e1 hk
  obtain rfl:=e1 hx
  simp only[eqV,hd] at h
  rw[←Option.some.inj hs,←Option.some.inj h]
 ·cases hs
def ZHe (I:Imm) (A:At):Option (Nat×V)→Option (Nat×Value)→Prop
 |none,none=> True
 |some (i,v),some (j,x)=> i=j∧vr I A v x
 |_,_=> False
def ZDE (P:Program) (k:TypeId) (key:V):List (V×V)→Nat→Option (Option (Nat×V))
 |[],_=> some none
 |(x,v)::es,i=> match eqV P 100 k key x with
  |some true=> some (some (i,v))
  |some false=> ZDE P k key es (i+1)
  |none=> none
theorem zkP {t:TypeId} {k:V}:∀{es:List (V×V)} {i:Nat},ZCU P t k es i=some none↔∀p∈es,eqV P 100 t k p.1=some false
 |[],i=> by simp[ZCU]
 |(x,v)::es,i=> by
  simp only[ZCU,List.mem_cons,forall_eq_or_imp]
  cases eqV P 100 t k x with
  |none=> simp
  |some b=>
   cases b with
   |true=>
    simp only[Option.some.injEq,Bool.true_eq_false,false_and,iff_false]
    split <;> simp
   |false=> simp only[true_and];exact zkP
theorem zDZ {t:TypeId} {k:V}:∀{es:List (V×V)} {i j:Nat} {v:V},ZCU P t k es i=some (some (j,v))→∃l1 k0 l2,es=l1++(k0,v)::l2∧j=i+l1.length∧eqV P 100 t k k0=some true∧∀p∈l1++l2,eqV P 100 t k p.1=some false
 |[],i,j,v,h=> by simp[ZCU] at h
 |(x,u)::es,i,j,v,h=> by
  simp only[ZCU] at h
  split at h
  ·rename_i hq
   split at h
   ·rename_i hn
    obtain⟨rfl,rfl⟩:=Prod.mk.inj (Option.some.inj (Option.some.inj h))
    exact⟨[],x,es,rfl,rfl,hq,by simpa using zkP.1 hn⟩
   ·cases h
  ·rename_i hq
   obtain⟨l1,k0,l2,rfl,rfl,h1,h2⟩:=zDZ h
   refine⟨(x,u)::l1,k0,l2,rfl,by simp only[List.length_cons];omega,h1,fun p hp=> ?_⟩
   simp only[List.cons_append,List.mem_cons] at hp
   rcases hp with rfl|hp
   ·exact hq
   ·exact h2 p hp
  ·cases h
theorem zDX {t:TypeId} {k:V}:∀{es:List (V×V)} {i:Nat},(∀p∈es,eqV P 100 t k p.1=some false)→ZDE P t k es i=some none
 |[],i,_=> rfl
 |(x,v)::es,i,h=> by
  simp only[ZDE,h _ List.mem_cons_self]
  exact zDX fun p hp=> h p (List.mem_cons_of_mem _ hp)
theorem zDY {t:TypeId} {k k0 v:V} {l2:List (V×V)} (h0:eqV P 100 t k k0=some true):∀{l1:List (V×V)} {i:Nat},(∀p∈l1,eqV P 100 t k p.1=some false)→ZDE P t k (l1++(k0,v)::l2) i=some (some (i+l1.length,v))
 |[],i,_=> by simp[ZDE,h0]
 |(x,u)::l1,i,h=> by
  simp only[List.cons_append,ZDE,h _ List.mem_cons_self]
  rw[zDY h0 fun p hp=> h p (List.mem_cons_of_mem _ hp)]
  simp only[List.length_cons,Option.some.injEq,Prod.mk.injEq,and_true]
  omega
theorem zy2 {t:TypeId} {k:V} {es es':List (V×V)} (hp:es'.Perm es) {r:Option (Nat×V)} (h:ZCU P t k es 0=some r):
 (r=none∧ZDE P t k es' 0=some none)∨∃l1 k0 v l2 m1 m2,r=some (l1.length,v)∧es=l1++(k0,v)::l2∧es'=m1++(k0,v)::m2∧(m1++m2).Perm (l1++l2)∧ZDE P t k es' 0=some (some (m1.length,v)):=by
 cases r with
 |none=> exact .inl ⟨rfl,zDX fun p hq=> zkP.1 h p (hp.mem_iff.1 hq)⟩
 |some q=>
  obtain⟨j,v⟩:=q
  obtain⟨l1,k0,l2,rfl,rfl,h1,h2⟩:=zDZ h
  obtain⟨m1,m2,rfl⟩:=List.append_of_mem (hp.mem_iff.2 (List.mem_append_right l1 List.mem_cons_self))
  have hm:(m1++m2).Perm (l1++l2):=(List.perm_cons (k0,v)).1 (List.perm_middle.symm.trans (hp.trans List.perm_middle))
  refine .inr ⟨l1,k0,v,l2,m1,m2,by simp,rfl,rfl,hm,?_⟩
  rw[zDY h1 fun p hq=> h2 p (hm.mem_iff.1 (List.mem_append_left _ hq))]
  simp
theorem zDW {I:Imm} {A:At} {t:TypeId} {k:V} {k':Value} (hk:vr I A k k'):∀{es:List (V×V)} {ents:List MapEntry} {i:Nat} {r:Option (Nat×V)} {r':Option (Nat×Value)},ZCZ I A es ents→ZDE P t k es i=some r→Instr.findNow (und P t) k' ents i=some r'→ZHe I A r r'
 |[],ents,i,r,r',he,h,h'=> by
  simp[ZCZ] at he;subst he
  simp[ZDE] at h;subst h
  simp[Instr.findNow] at h';subst h'
  trivial
 |(x,v)::es,ents,i,r,r',⟨e,es',he,h1,h2,h3⟩,h,h'=> by
  subst he
  simp only[ZDE] at h
  simp only[Instr.findNow] at h'
  cases hq:eqV P 100 t k x with
  |none=> simp[hq] at h
  |some b=>
   cases hs:Instr.sameNow (und P t) k' e.key with
   |none=> simp[hs] at h'
   |some c=>
    obtain rfl:=zYR hk h1 hq hs
    cases c with
    |true=>
     simp only[hq] at h
     simp only[hs] at h'
     obtain rfl:=Option.some.inj h
     obtain rfl:=Option.some.inj h'
     exact⟨rfl,h2⟩
    |false=>
     simp only[hq] at h
     simp only[hs] at h'
     exact zDW hk h3 h h'
theorem zDV {I:Imm} {A:At} {t:TypeId} {k:V} {k':Value} (hk:vr I A k k') (w:World):∀{es:List (V×V)} {ents:List MapEntry} {i:Nat} {r:Option (Nat×V)},ZCZ I A es ents→ZDE P t k es i=some r→∃r',(Instr.findAsking t k' ents i).run P w=.ok r' w∧ZHe I A r r'
 |[],ents,i,r,he,h=> by
  simp[ZCZ] at he;subst he
  simp[ZDE] at h;subst h
  exact⟨none,rfl,trivial⟩
 |(x,v)::es,ents,i,r,⟨e,es',he,h1,h2,h3⟩,h=> by
  subst he
  simp only[ZDE] at h
  cases hq:eqV P 100 t k x with
  |none=> simp[hq] at h
  |some b=>
   have hr:=zwN (P:=P) 100 hk h1 hq Op.maxDepth (by decide) w
   unfold Instr.findAsking
   rw[Sem.run_bind]
   unfold Op.equal
   rw[hr]
   simp only[Result.andThen]
   cases b with
   |true=>
    simp only[hq] at h
    obtain rfl:=Option.some.inj h
    exact⟨some (i,e.val),rfl,rfl,h2⟩
   |false=>
    simp only[hq] at h
    simp only[Bool.false_eq_true,if_false]
    exact zDV hk w h3 h
theorem zwS {I:Imm} {A:At} {t:TypeId} {k:V} {k':Value} (hk:vr I A k k') (hok:okU P t=true) (w:World) {es:List (V×V)} {ents:List MapEntry} {r:Option (Nat×V)} (he:ZCZ I A es ents) (h:ZDE P t k es 0=some r):∃r',(Instr.findKey t k' ents).run P w=.ok r' w∧ZHe I A r r':=by
 unfold Instr.findKey
 rw[Sem.run_bind,zjl hok w]
 simp only[Result.andThen]
 cases hn:Instr.findNow (und P t) k' ents 0 with
 |some r'=> exact⟨r',rfl,zDW hk he h hn⟩
 |none=> exact zDV hk w he h
theorem zyh {t:TypeId} {v:V} (h:ZEd P t v=true):okU P t=true:=by
 unfold ZEd at h
 split at h
 ·rename_i hd;exact zbX hd (by simp)
 ·unfold ZEG at h
  split at h
  ·rename_i hd _;exact zbX hd (by simp)
  ·rename_i hd _;exact zbX hd (by simp)
  ·rename_i hd _;exact zbX hd (by simp)
  ·cases h
section
variable {g:G} {get:Nat→Blk} {n:Nat} {w:World}
theorem zXG (h:WR g get n w) {m:V} {x:Value} (hm:vr g.I (g.at get n) m x) {es:List (V×V)} {rs:List Nat} (ho:mapOf get m=some (es,rs)):
 ∃ents:Array MapEntry,((x=.map none∧ents=#[])∨∃r clock,x=.map (some r)∧w.heap[r]?=some (.map ents clock))∧ZEL g.I (g.at get n) es ents.toList:=by
 unfold mapOf at ho
 cases m with
 |nilm=>
  simp only[vr] at hm;subst hm
  obtain⟨rfl,_⟩:[]=es∧_:=by simpa using ho
  exact⟨#[],.inl ⟨rfl,rfl⟩,[],.refl _,by simp[ZCZ]⟩
 |map r=>
  simp only[vr] at hm
  obtain⟨b,rfl,hr,hfm,rfl⟩:=hm
  simp only at ho
  cases hg:get r with
  |map es' ver=>
   simp only[hg] at ho
   obtain⟨rfl,_⟩:es'=es∧_:=by simpa using ho
   have hb:=h.blk r hr
   rw[hg] at hb
   obtain⟨ents,clock,h1,h2,h3⟩:=hb
   exact⟨ents,.inr ⟨g.mu r,clock,rfl,h1⟩,h2⟩
  |_=> simp[hg] at ho
 |_=> cases ho
theorem zbY {w:World} {r:Nat} {o:Obj} (h:w.heap[r]?=some o) (hc:∀c e f,o≠.cells c e f):(getObj r).run P w=.ok o w:=by
 unfold getObj
 cases o <;> first|exact absurd rfl (hc _ _ _)|simp only[Sem.run,h]
theorem zCX {w:World} {r:Nat} {o:Obj} (h:w.heap[r]?=some o) (hc:∀c e f,o≠.cells c e f) (o':Obj):(setObj r o').run P w=.ok () {w with heap:=w.heap.setIfInBounds r o'}:=by
 unfold setObj
 cases o <;> first|exact absurd rfl (hc _ _ _)|simp only[Sem.run,h]
theorem zNH {t kt el:TypeId} (hd:und P t=.map kt el) {m' k':Value} {ents:Array MapEntry} (hents:(m'=.map none∧ents=#[])∨∃r clock,m'=.map (some r)∧w.heap[r]?=some (.map ents clock)) (hck:(Instr.checkKey ents.isEmpty 10000 kt k').run P w=.ok () w)
 {r':Option (Nat×Value)} (hfk:(Instr.findKey kt k' ents.toList).run P w=.ok r' w) {zx:Value} (hz:r'=none→(zeroValue el).run P w=.ok zx w) (ok:Bool):
 (Instr.lookup t m' k' ok).run P w=.ok (if ok then .tuple #[(match r' with|some p=> p.2|none=> zx),.bool r'.isSome] else (match r' with|some p=> p.2|none=> zx)) w:=by
 unfold Instr.lookup
 rw[Sem.run_bind,zn hd (by simp) w]
 simp only[Result.andThen]
 rcases hents with ⟨rfl,rfl⟩|⟨r,clock,rfl,hh⟩
 ·simp only[Sem.run_bind,Sem.run_pure,Result.andThen,hck,hfk]
  cases r' with
  |none=> simp only[Sem.run_bind,hz rfl,Result.andThen,Sem.run_pure];rfl
  |some p=> rfl
 ·simp only[Sem.run_bind,zbY hh (by simp),Sem.run_pure,Result.andThen,hck,hfk]
  cases r' with
  |none=> simp only[Sem.run_bind,hz rfl,Result.andThen,Sem.run_pure];rfl
  |some p=> rfl
theorem zXA (h:WR g get n w) {t:TypeId} {m k:V} {m' k':Value} (hm:vr g.I (g.at get n) m m') (hk:vr g.I (g.at get n) k k') {ok:Bool} {e:Eff} (he:lookup P get t m k ok=some e):
 e.wr=[]∧e.nw=[]∧∃y,(Instr.lookup t m' k' ok).run P w=.ok y w∧vr g.I (g.at get n) e.v y:=by
 unfold lookup at he
 cases hd:und P t with
 |map kt el=>
  cases ho:mapOf get m with
  |none=> simp[hd,ho] at he
  |some p=>
   obtain⟨es,rs⟩:=p
   simp only[hd,ho] at he
   split at he
   ·rename_i hkey
    obtain⟨ents,hents,es',hperm,hR⟩:=zXG h hm ho
    cases hfv:ZCU P kt k es 0 with
    |none=> simp[hfv] at he
    |some r=>
     have hck:=zyQ (P:=P) hkey hk ents.isEmpty w
     rcases zy2 hperm hfv with ⟨rfl,hf0⟩|⟨l1,k0,v,l2,m1,m2,rfl,rfl,rfl,hm12,hf0⟩
     ·obtain⟨r',hr',hfr⟩:=zwS (P:=P) hk (zyh hkey) w hR hf0
      simp only[hfv] at he
      cases r' with
      |some q=> exact hfr.elim
      |none=>
       cases hz:zeroOf P el with
       |none=> simp[hz] at he
       |some z=>
        simp only[hz] at he
        obtain rfl:=Option.some.inj he
        obtain⟨zx,hzx,hzv⟩:=zws hz w
        refine⟨rfl,rfl,_,zNH hd hents hck hr' (zx:=zx) (fun _=> hzx) ok,?_⟩
        ·cases ok with
         |false=> simp only[Bool.false_eq_true,if_false];exact hzv _ _
         |true=>
          simp only[if_true,vr]
          exact⟨_,rfl,by simp only[vrl];exact⟨zx,[.bool false],rfl,hzv _ _,.bool false,[],rfl,by simp[vr],rfl⟩⟩
     ·obtain⟨r',hr',hfr⟩:=zwS (P:=P) hk (zyh hkey) w hR hf0
      simp only[hfv] at he
      obtain rfl:=Option.some.inj he
      cases r' with
      |none=> exact hfr.elim
      |some q=>
       obtain⟨j,x⟩:=q
       obtain⟨_,hv⟩:=hfr
       refine⟨rfl,rfl,_,zNH hd hents hck hr' (zx:=undef) (fun h=> by cases h) ok,?_⟩
       ·cases ok with
        |false=> simp only[Bool.false_eq_true,if_false];exact hv
        |true=>
         simp only[if_true,vr]
         exact⟨_,rfl,by simp only[vrl];exact⟨x,[.bool true],rfl,hv,.bool true,[],rfl,by simp[vr],rfl⟩⟩
   ·cases he
 |_=> simp[hd] at he
end
end
section
variable {P:Program}
section
variable {g:G} {get:Nat→Blk} {n:Nat} {w:World}
theorem zN0 (h:WR g get n w) {b:Nat} {ob:Obj} (hb:w.heap[b]?=some ob) (hc:∀c e f,ob≠.cells c e f) (o:Nat):g.I b o=none:=by
 cases hx:g.I b o with
 |none=> rfl
 |some x=>
  have:=h.imm b o x hx
  unfold World.cell? at this
  rw[hb] at this
  cases ob <;> first|cases this|exact absurd rfl (hc _ _ _)
theorem WR.set_obj (h:WR g get n w) {r:Nat} (hr:r < n) (hl:(get r).live=true) (hfm:(get r).firm=true) {ob ob':Obj} (hb:w.heap[g.mu r]?=some ob) (hc:∀c e f,ob≠.cells c e f) (hc':∀c e f,ob'≠.cells c e f) {b:Blk} (hbf:b.firm=true)
 (hiter:∀j m ver left cur,j < n→j≠r→get j=.iter (some m) ver left cur→m=r→∀es ver',b=.map es ver'→ver < ver')
 (hblk:Ext g get n w g (upd get r b) n {w with heap:=w.heap.setIfInBounds (g.mu r) ob'}→ZEK g (upd get r b) n {w with heap:=w.heap.setIfInBounds (g.mu r) ob'} r b)
 (hmap:∀es ver,get r=.map es ver→∃es' ver',b=.map es' ver'∧ver < ver'):
 WR g (upd get r b) n {w with heap:=w.heap.setIfInBounds (g.mu r) ob'}∧Ext g get n w g (upd get r b) n {w with heap:=w.heap.setIfInBounds (g.mu r) ob'}:=by
 refine WR.go (fun j=> j=r) (fun x=> x=g.mu r) h (Nat.le_refl _) ?_ ?_ ?_ ?_ ?_ (Imm.le_refl _) (fun _ _ _ hx=> .inl hx) ?_ ?_ ?_ ?_ ?_ ?_ ?_ rfl rfl rfl ?_ ?_
 ·intro j _ hj;exact⟨J7 _ _ hj,rfl,rfl,rfl⟩
 ·intro j h1 h2;omega
 ·simp
 ·intro x _ hd;simp only;rw[Array.getElem?_setIfInBounds_ne (Ne.symm hd)]
 ·intro x _ hd;exact⟨r,hr,rfl,hl,hd.symm⟩
 ·intro x o v hx hd
  have hx:g.I x o=some v:=hx
  rcases hd with hd|rfl
  ·rw[zaf h hd] at hx;cases hx
  ·rw[zN0 h hb hc] at hx;cases hx
 ·intro j _ hj _;subst hj;exact⟨by rw[zG];exact hbf,rfl,rfl,rfl⟩
 ·intro j _ hj _;subst hj;rw[zG];rintro rfl;cases hbf
 ·intro j _ hj hw1 hw2 e1;subst hj;rw[e1] at hfm;cases hfm
 ·intro j _ hjr _;subst hjr;exact .inr ⟨j,hr,rfl,hl,rfl⟩
 ·intro j j' _ _ hj hj' _ _ _;rw[hj,hj']
 ·intro j m ver left cur hj hjr hg hm es ver' he
  subst hm
  rw[zG] at he
  exact hiter j m ver left cur hj hjr hg rfl es ver' he
 ·intro e j _ hj;subst hj;rw[zG];exact hblk e
 ·intro j _ hj es ver e1
  subst hj
  rw[zG]
  obtain⟨es',ver',h1,h2⟩:=hmap es ver e1
  exact⟨es',ver',h1,.inl h2⟩
theorem zzh (h:WR g get n w) {j m ver:Nat} {left:List (V×V)} {cur:Option (V×V)} (hj:j < n) (hg:get j=.iter (some m) ver left cur) {es:List (V×V)} {ver':Nat} (hm:get m=.map es ver'):ver≤ver':=by
 have hb:=h.blk j hj
 rw[hg] at hb
 obtain⟨_,_,_,_,_,_,_,h5,_⟩:=hb
 exact h5 es ver' hm
theorem zDN {I:Imm} {A:At}:∀{l:List (V×V)} {es:List MapEntry} {k v:V} {e:MapEntry},ZCZ I A l es→vr I A k e.key→vr I A v e.val→ZCZ I A (l++[(k,v)]) (es++[e])
 |[],es,k,v,e,h,h1,h2=> by simp only[ZCZ] at h;subst h;exact⟨e,[],rfl,h1,h2,rfl⟩
 |(_,_)::l,_,k,v,e,⟨e0,es',he,q1,q2,q3⟩,h1,h2=> by subst he;exact⟨e0,_,rfl,q1,q2,zDN q3 h1 h2⟩
theorem zNJ (h:WR g get n w) {nid:Nat} {o:Oper} {a:Act} {t kt el:TypeId} {r:Nat} {k x:V} {k' x':Value} (hrun:execOp a.eval o=(do Instr.mapUpdate t (.map (some (g.mu r))) k' x';pure .skip)) (hr:r < n) (hfm:(get r).firm=true) (hk:vr g.I (g.at get n) k k') (hx:vr g.I (g.at get n) x x')
 (hd:und P t=.map kt el) (hkey:ZEd P kt k=true) {es:List (V×V)} {ver:Nat} (hg:get r=.map es ver) (hfv:ZCU P kt k es 0=some none) {es':List (V×V)} (hes:es'.Perm (es++[(k,x)])):
 ZDn P o a g get n w nid {v:=ZmM,rd:=[r],wr:=[(r,.map es' (ver+1))]}:=by
 have hb:=h.blk r hr
 rw[hg] at hb
 obtain⟨ents,clock,h1,⟨l,hl,h2⟩,h3,h4⟩:=hb
 have hck:=zyQ (P:=P) hkey hk false w
 have hf0:ZDE P kt k l 0=some none:=by
  rcases zy2 hl hfv with ⟨_,hf0⟩|⟨_,_,_,_,_,_,hc,_⟩
  ·exact hf0
  ·cases hc
 obtain⟨r',hr',hfr⟩:=zwS (P:=P) hk (zyh hkey) w h2 hf0
 cases r' with
 |some q=> exact hfr.elim
 |none=>
  obtain⟨hW,hE⟩:=h.set_obj hr (by rw[hg];rfl) hfm h1 (by simp) (ob':=.map (ents.push {key:=k',val:=x',born:=clock}) (clock+1)) (by simp) (b:=.map es' (ver+1)) rfl
   (fun j m ver' left cur hj hjr hgj hm es'' ver'' he'=> by subst hm;cases he';have:=zzh h hj hgj hg;omega)
   (fun e=> by
    refine⟨ents.push {key:=k',val:=x',born:=clock},clock+1,?_,⟨l++[(k,x)],((hl.append_right _).trans hes.symm),?_⟩,?_,?_⟩
    ·simp[QG h1]
    ·rw[Array.toList_push]
     exact zDN (zwM e.I_le e.at_le h2) (e.vr hk) (e.vr hx)
    ·rw[Array.toList_push,List.map_append,List.nodup_append]
     refine⟨h3,by simp,?_⟩
     intro p hp q hq
     simp at hq
     obtain⟨en,hen,rfl⟩:=List.mem_map.1 hp
     have:=h4 en hen
     omega
    ·intro en hen
     rw[Array.toList_push,List.mem_append] at hen
     rcases hen with hen|hen
     ·have:=h4 en hen;omega
     ·simp at hen;subst hen;simp)
   (fun es'' ver' he'=> by rw[hg] at he';cases he';exact⟨_,_,rfl,Nat.lt_succ_self _⟩)
  refine⟨undef,_,g,.inr ⟨zCY hrun ?_,rfl⟩,hW,hE,zjm⟩
  unfold Instr.mapUpdate
  rw[Sem.run_bind,zn hd (by simp) w]
  simp only[Result.andThen,Sem.run_bind,zbY h1 (by simp),hck,hr',zCX h1 (by simp)]
theorem zXF (h:WR g get n w) {nid:Nat} {o:Oper} {a:Act} {t:TypeId} {m k x:V} {m' k' x':Value} (hrun:execOp a.eval o=(do Instr.mapUpdate t m' k' x';pure .skip)) (hm:vr g.I (g.at get n) m m') (hk:vr g.I (g.at get n) k k') (hx:vr g.I (g.at get n) x x')
 {e:Eff} (he:mapUpdate P get t m k x=some e):ZDn P o a g get n w nid e:=by
 unfold mapUpdate at he
 cases hd:und P t with
 |map kt el=>
  cases m with
  |map r=>
   simp only[hd] at he
   simp only[vr] at hm
   obtain⟨b,rfl,hr,hfm,rfl⟩:=hm
   split at he
   ·rename_i hkey
    cases hg:get r with
    |map es ver=>
     simp only[hg] at he
     cases hfv:ZCU P kt k es 0 with
     |none=> simp[hfv] at he
     |some r0=>
      cases r0 with
      |none=>
       simp only[hfv] at he
       obtain rfl:=Option.some.inj he
       exact zNJ h hrun hr hfm hk hx hd hkey hg hfv (.refl _)
      |some p=>
       obtain⟨i,v0⟩:=p
       have hb:=h.blk r hr
       rw[hg] at hb
       obtain⟨ents,clock,h1,⟨es',hes,h2⟩,h3,h4⟩:=hb
       have hck:=zyQ (P:=P) hkey hk false w
       simp only[hfv] at he
       rcases zy2 hes hfv with ⟨hc,_⟩|⟨l1,k0,v,l2,m1,m2,hq,rfl,rfl,hm12,hf0⟩
       ·cases hc
       obtain⟨rfl,rfl⟩:=Prod.mk.inj (Option.some.inj hq)
       obtain⟨r',hr',hfr⟩:=zwS (P:=P) hk (zyh hkey) w h2 hf0
       have hi:(l1++(k0,v0)::l2)[l1.length]?=some (k0,v0):=by simp
       simp only[hi] at he
       split at he
       ·rename_i hsame
        obtain rfl:=Option.some.inj he
        cases r' with
        |none=> exact hfr.elim
        |some q=>
         obtain⟨j0,x0⟩:=q
         obtain⟨rfl,_⟩:=hfr
         have hi':(m1++(k0,v0)::m2)[m1.length]?=some (k0,v0):=by simp
         obtain⟨en0,q1,q2,q3⟩:=zwL h2 hi'
         have hen0:ents[m1.length]?=some en0:=by simpa using q1
         have hbits:=zYQ hsame hk q2
         obtain⟨hW,hE⟩:=h.set_obj hr (by rw[hg];rfl) hfm h1 (by simp) (ob':=.map (ents.modify m1.length fun e=> {e with key:=k',val:=x'}) clock) (by simp) (b:=.map ((l1++(k0,v0)::l2).set l1.length (k,x)) (ver+1)) rfl
          (fun j m ver' left cur hj hjr hgj hm es' ver'' he'=> by subst hm;cases he';have:=zzh h hj hgj hg;omega)
          (fun e=> by
           have hborn:(ents.modify m1.length fun e=> {e with key:=k',val:=x'}).toList.map (·.born)=ents.toList.map (·.born):=by
            apply List.ext_getElem?
            intro j
            simp only[List.getElem?_map,Array.getElem?_toList,Array.getElem?_modify]
            split
            ·cases ents[j]? <;> rfl
            ·rfl
           refine⟨ents.modify m1.length fun e=> {e with key:=k',val:=x'},clock,?_,⟨(m1++(k0,v0)::m2).set m1.length (k,x),?_,?_⟩,?_,?_⟩
           ·simp[QG h1]
           ·have e1:∀(a b:List (V×V)),(a++(k0,v0)::b).set a.length (k,x)=a++(k,x)::b:=fun a b=> by
             rw[List.set_append_right _ _ (Nat.le_refl _)];simp
            rw[e1,e1]
            exact List.perm_middle.trans ((List.Perm.cons _ hm12).trans List.perm_middle.symm)
           ·refine zDK (by have:=zkL h2;simpa using this) fun j kk vv hj=> ?_
            rw[List.getElem?_set] at hj
            rw[Array.getElem?_toList,Array.getElem?_modify]
            split at hj
            ·rename_i hij
             subst hij
             rw[if_pos rfl]
             split at hj
             ·simp at hj
              obtain⟨rfl,rfl⟩:=hj
              exact⟨_,by rw[hen0];rfl,e.vr hk,e.vr hx⟩
             ·cases hj
            ·rename_i hij
             rw[if_neg hij]
             obtain⟨en,p1,p2,p3⟩:=zwL h2 hj
             exact⟨en,by simpa using p1,e.vr p2,e.vr p3⟩
           ·rw[hborn];exact h3
           ·intro en hen
            have hmem:en.born∈ents.toList.map (·.born):=by rw[←hborn];exact List.mem_map_of_mem hen
            obtain⟨en',hen',e2⟩:=List.mem_map.1 hmem
            rw[←e2];exact h4 en' hen')
          (fun es' ver' he'=> by rw[hg] at he';cases he';exact⟨_,_,rfl,Nat.lt_succ_self _⟩)
         refine⟨undef,_,g,.inr ⟨zCY hrun ?_,rfl⟩,hW,hE,zjm⟩
         unfold Instr.mapUpdate
         rw[Sem.run_bind,zn hd (by simp) w]
         simp only[Result.andThen,Sem.run_bind,zbY h1 (by simp),hck,hr',hen0,Option.map_some,Option.getD_some]
         unfold Instr.keyThatStays
         simp only[hbits,if_true,Sem.run_pure,zCX h1 (by simp)]
       ·cases he
    |_=> simp[hg] at he
   ·cases he
  |_=> simp[hd] at he
 |_=> simp[hd] at he
theorem zwY (a:Nat) (x:V×V):∀es:List (V×V),(ZCs a x es).Perm (es++[x])
 |[]=> .refl _
 |p::es=> by
  unfold ZCs
  split
  ·exact(List.perm_append_singleton x (p::es)).symm
  ·exact(zwY a x es).cons p
theorem zwl {a:Nat} {es:List (V×V)}:others a es=true↔∀p∈es,∃b,ZDO p.1=some b∧a≠b:=by
 unfold others
 rw[List.all_eq_true]
 refine forall_congr' fun p=> forall_congr' fun _=> ?_
 cases ZDO p.1 with
 |none=> simp
 |some b=>
  simp only[Bool.not_eq_true',Option.some.injEq,exists_eq_left']
  constructor
  ·intro h hh
   rw[hh,Nat.beq_refl] at h
   cases h
  ·intro h
   cases hb:Nat.beq a b with
   |false=> rfl
   |true=> exact absurd (Nat.eq_of_beq_eq_true hb) h
theorem zEs {a b:Nat} {x y:V×V} (hx:ZDO x.1=some a) (hy:ZDO y.1=some b) (hab:a≠b):∀es:List (V×V),ZCs a x (ZCs b y es)=ZCs b y (ZCs a x es)
 |[]=> by
  simp only[ZCs,hx,hy,Option.getD_some,Nat.blt_eq]
  rcases Nat.lt_or_ge a b with h|h
  ·rw[if_pos h,if_neg (by omega)]
  ·rw[if_neg (by omega),if_pos (by omega)]
 |p::es=> by
  simp only[ZCs,Nat.blt_eq]
  by_cases h1:a < (ZDO p.1).getD 0 <;> by_cases h2:b < (ZDO p.1).getD 0
  ·rw[if_pos h1,if_pos h2]
   simp only[ZCs,hx,hy,Option.getD_some,Nat.blt_eq]
   rcases Nat.lt_or_ge a b with h|h
   ·rw[if_pos h,if_neg (by omega),if_pos h2]
   ·rw[if_neg (by omega),if_pos h1,if_pos (by omega)]
  ·rw[if_pos h1,if_neg h2]
   simp only[ZCs,hx,hy,Option.getD_some,Nat.blt_eq]
   rw[if_pos h1,if_neg (by omega),if_neg h2]
  ·rw[if_neg h1,if_pos h2]
   simp only[ZCs,hx,hy,Option.getD_some,Nat.blt_eq]
   rw[if_neg (by omega),if_neg h1,if_pos h2]
  ·rw[if_neg h1,if_neg h2]
   simp only[ZCs,Nat.blt_eq]
   rw[if_neg h1,if_neg h2,zEs hx hy hab es]
structure InsOk (P:Program) (get:Nat→Blk) (t:TypeId) (r:Nat) (k v:V) (e:Eff):Prop where
 ex:∃kt el a es ver,und P t=.map kt el∧und P kt=.string∧ZDO k=some a∧get r=.map es ver∧others a es=true∧e={v:=ZmM,rd:=[r],wr:=[(r,.map (ZCs a (k,v) es) (ver+1))]}
theorem zyb {get:Nat→Blk} {t:TypeId} {m k v:V} {e:Eff}:ZE2 P get t m k v=some e↔∃r,m=.map r∧InsOk P get t r k v e:=by
 constructor
 ·intro h
  unfold ZE2 at h
  split at h
  ·rename_i kt el r hd
   split at h
   ·rename_i a es ver h1 h2 h3
    split at h
    ·rename_i ho
     exact⟨r,rfl,kt,el,a,es,ver,hd,h1,h2,h3,ho,(Option.some.inj h).symm⟩
    ·cases h
   ·cases h
  ·cases h
 ·rintro⟨r,rfl,kt,el,a,es,ver,hd,h1,h2,h3,ho,rfl⟩
  unfold ZE2
  simp only[hd,h1,h2,h3,ho,if_true]
theorem zXD (h:WR g get n w) {nid:Nat} {o:Oper} {a:Act} {t:TypeId} {m k x:V} {m' k' x':Value} (hrun:execOp a.eval o=(do Instr.mapUpdate t m' k' x';pure .skip)) (hm:vr g.I (g.at get n) m m') (hk:vr g.I (g.at get n) k k') (hx:vr g.I (g.at get n) x x')
 {e:Eff} (he:ZE2 P get t m k x=some e):ZDn P o a g get n w nid e:=by
 obtain⟨r,rfl,kt,el,b,es,ver,hd,h1,h2,h3,ho,rfl⟩:=zyb.1 he
 simp only[vr] at hm
 obtain⟨_,rfl,hr,hfm,rfl⟩:=hm
 have hks:∃s,k=.str s:=by cases k <;> simp[ZDO] at h2;exact⟨_,rfl⟩
 obtain⟨s,rfl⟩:=hks
 refine zNJ h hrun hr hfm hk hx hd (by unfold ZEd;rw[h1];rfl) h3 (zkP.2 fun p hp=> ?_) (zwY b _ es)
 obtain⟨c,hc,hbc⟩:=zwl.1 ho p hp
 obtain⟨pk,pv⟩:=p
 cases pk <;> simp only[ZDO,Option.some.injEq,reduceCtorEq] at hc
 rename_i s'
 simp only[eqV,h1]
 simp only[ZDO,Option.some.injEq] at h2
 have:s.data.toList≠s'.data.toList:=fun hh=> hbc (by rw[←h2,←hc,hh])
 simpa using this
theorem zYr (h:WR g get n w) {nid:Nat} (hf:ZDc get n nid) {o:Oper} {a:Act} {t:TypeId} {y:Operand} (ho:o.op=.range t y) {kt el:TypeId} (hd:und P t=.map kt el) {x:V} (hx:vr g.I (g.at get n) x (a.eval y)) {e:Eff} (he:ZG8 get nid x=some e):
 ZDn P o a g get n w nid e:=by
 have hex:execOp a.eval o=(do pure (.value (←Instr.range t (a.eval y)))):=by unfold execOp;rw[ho]
 unfold ZG8 at he
 cases x with
 |nilm=>
  simp only at he
  obtain rfl:=Option.some.inj he
  simp only[vr] at hx
  obtain⟨hW,hE⟩:=h.new hf (.mapIter none 0 #[] 0) (.iter none 0 [] none) 0 0 fun e=> ⟨if_pos rfl,by rw[show(g.put nid w.heap.size 0 0).mu nid=w.heap.size from if_pos rfl];exact zaY _ _⟩
  refine⟨.pointer (some ⟨w.heap.size,0,none⟩),_,_,.inl (zaU hex ?_),hW,hE,?_⟩
  ·unfold Instr.range newObj
   rw[Sem.run_bind,zn hd (by simp) w,hx]
   simp only[Result.andThen,Sem.run_bind,Sem.run_pure]
   rfl
  ·simp only[vr];exact⟨_,rfl,zwA _ _ _ rfl⟩
 |map m=>
  simp only[vr] at hx
  obtain⟨b,hxe,hr,hfm,rfl⟩:=hx
  simp only at he
  cases hg:get m with
  |map es ver=>
   simp only[hg] at he
   obtain rfl:=Option.some.inj he
   have hb:=h.blk m hr
   rw[hg] at hb
   obtain⟨ents,clock,h1,h2,h3,h4⟩:=hb
   have hmn:m≠nid:=zy5 hf hr (by rw[hg];rfl)
   obtain⟨hW,hE⟩:=h.new hf (.mapIter (some (g.mu m)) clock #[] clock) (.iter (some m) ver es none) 0 0 fun e=> by
    refine⟨by omega,by rw[J7 _ _ hmn];exact hfm,if_pos rfl,clock,#[],clock,?_,fun es' ver' hq=> ?_,fun es' hq=> ?_⟩
    ·rw[show(g.put nid w.heap.size 0 0).mu nid=w.heap.size from if_pos rfl,show(g.put nid w.heap.size 0 0).mu m=g.mu m from if_neg hmn];exact zaY _ _
    ·rw[J7 _ _ hmn,hg] at hq;cases hq;exact Nat.le_refl _
    ·refine⟨ents,?_,rfl,?_,fun k v hc=> by cases hc⟩
     ·rw[show(g.put nid w.heap.size 0 0).mu m=g.mu m from if_neg hmn,zjr _ _ (QG h1)];exact h1
     ·have:(ents.toList.filter fun e=> !(#[]:Array Nat).contains e.born)=ents.toList:=by
       apply List.filter_eq_self.2;intro x _;simp
      rw[this]
      exact zkK e.I_le e.at_le h2
   refine⟨.pointer (some ⟨w.heap.size,0,none⟩),_,_,.inl (zaU hex ?_),hW,hE,?_⟩
   ·unfold Instr.range newObj
    rw[Sem.run_bind,zn hd (by simp) w,hxe]
    simp only[Result.andThen,Sem.run_bind,zbY h1 (by simp),Sem.run_pure]
    rfl
   ·simp only[vr];exact⟨_,rfl,zwA _ _ _ rfl⟩
  |_=> simp[hg] at he
 |_=> cases he
theorem zQp (h:WR g get n w) {nid:Nat} {o:Oper} {a:Act} {y:Operand} (ho:o.op=.entry y) {x:V} (hx:vr g.I (g.at get n) x (a.eval y)) {e:Eff} (he:ZFn get x=some e):ZDn P o a g get n w nid e:=by
 have hex:execOp a.eval o=(do pure (.value (←Instr.entry (a.eval y)))):=by unfold execOp;rw[ho]
 unfold ZFn at he
 split at he
 ·rename_i r
  simp only[vr] at hx
  obtain⟨ad,hxe,hr,hfm,rfl⟩:=hx
  split at he
  ·rename_i m ver left k v hg
   split at he
   ·rename_i es ver' hgm
    split at he
    ·rename_i hver
     subst hver
     obtain rfl:=Option.some.inj he
     have hb:=h.blk r hr
     rw[hg] at hb
     obtain⟨h1,h2,h3,since,seen,last,h4,h5,h6⟩:=hb
     obtain⟨ents,k1,k2,k3,k4⟩:=h6 es hgm
     obtain⟨stamp,en,q1,q2,q3,q4⟩:=k4 k v rfl
     refine zad h (zaU hex ?_) (x:=.tuple #[en.key,en.val]) ?_
     ·unfold Instr.entry
      rw[hxe,h3]
      simp only[Sem.run_bind,Nat.add_zero,zbY h4 (by simp),Result.andThen,q1,zbY k1 (by simp),k2,bne_self_eq_false,Bool.false_eq_true,if_false,q2,Sem.run_pure]
     ·simp only[vr]
      exact⟨_,rfl,by simp only[vrl];exact⟨en.key,[en.val],rfl,q3,en.val,[],rfl,q4,rfl⟩⟩
    ·cases he
   ·cases he
  ·cases he
 ·cases he
end
end
section
variable {P:Program}
theorem zQx {o:Oper} {a:Act} {c:Call} {b:Builtin} (ho:o.op=.call c) (hb:c.callee=.builtin b) (w:World):∃consts,(execOp a.eval o).run P w=(builtin b c.argTypes o.type consts (c.args.map a.eval)).run P w:=by
 refine⟨c.args.map fun|.const _=> true|_=> false,?_⟩
 unfold execOp
 rw[ho]
 simp only[Sem.run_bind]
 unfold resolve
 rw[hb]
 rfl
theorem zwz {α:Type} {a:Array α} {l:List α} (h:a.toList=l):a=l.toArray:=by rw[←h]
theorem zYO {t:TypeId} {name:String} {f:FuncId} (h:methodOf P t name=some f) (v:Value) (w:World):(nilAhead (P.types.size+Made.depth) t v name).run P w=.ok (some false) w:=by
 have hd:P.types.size+Made.depth=(P.types.size+(Made.depth - 1))+1:=by
  have:0 < Made.depth:=by decide
  omega
 unfold methodOf at h
 cases hi:P.info? t with
 |none=> simp[hi] at h
 |some i=>
  simp only[hi,Option.bind_some] at h
  cases hm:i.methods.toList.find? (·.name==name) with
  |none=> simp[hm] at h
  |some m=>
   simp only[hm] at h
   split at h
   ·rename_i hp hfn hund
    have hm':i.methods.find? (·.name==name)=some m:=by
     rw[←Array.find?_toList];exact hm
    rw[hd]
    unfold nilAhead
    simp only[Sem.run_bind,typeInfo,program,Sem.run,hi,Result.andThen,Sem.run_pure,hm',hp,followBlind,hfn]
   ·cases h
section
variable {g:G} {get:Nat→Blk} {n:Nat} {w:World}
theorem Qk {o:Oper} {a:Act} {nid:Nat} (h:WR g get n w) {s:Sem Value} (hex:execOp a.eval o=(do pure (.value (←s)))) {v:V} {rs:List Nat} {p:Bool} (hr:∃y,s.run P w=.ok y w∧vr g.I (g.at get n) v y):ZDn P o a g get n w nid {v,rd:=rs,pan:=p}:=by
 obtain⟨y,h1,h2⟩:=hr
 exact zad h (zaU hex h1) h2
theorem zCF {regs:T V} {a:Act} (hR:RR g.I (g.at get n) regs a.tmps) {x:Option Operand} {v:Option V} (h:rdo regs x=some v):ZFA g.I (g.at get n) v (x.map a.eval):=by
 unfold rdo at h
 cases x with
 |none=> simp at h;subst h;trivial
 |some x=>
  cases hr:rd regs x with
  |none=> simp[hr] at h
  |some u=> simp[hr] at h;subst h;exact zQ hR hr
theorem zX0 (h:WR g get n w) {nid:Nat} {o:Oper} {a:Act} {y:Operand} (ho:o.op=.nilCheck y) {x:V} (hx:vr g.I (g.at get n) x (a.eval y)) {e:Eff} (he:ZCn P x=some e):ZDn P o a g get n w nid e:=by
 unfold ZCn at he
 have hv:∀{v:V},vr g.I (g.at get n) v (a.eval y)→(execOp a.eval o).run P w=.ok (.value (a.eval y)) w→ZDn P o a g get n w nid {v}:=fun hv hr=> zad h hr hv
 split at he
 ·obtain rfl:=Option.some.inj he
  refine hv hx ?_
  simp only[vr] at hx
  obtain⟨ad,hxe,_⟩:=hx
  unfold execOp
  rw[ho]
  simp only[hxe,Sem.run_pure]
 ·obtain rfl:=Option.some.inj he
  refine hv hx ?_
  simp only[vr] at hx
  obtain⟨b,o',hxe,_⟩:=hx
  unfold execOp
  rw[ho]
  simp only[hxe,Sem.run_pure]
 ·obtain rfl:=Option.some.inj he
  refine hv hx ?_
  simp only[vr] at hx
  obtain⟨f',a',c',hxe,hf,_⟩:=hx
  have:f'=.func _:=hf
  subst this
  unfold execOp
  rw[ho]
  simp only[hxe,Sem.run_pure]
 ·rename_i name t x0 a0 b0
  cases hm:methodOf P t name with
  |none=> simp[hm] at he
  |some f=>
   simp only[hm] at he
   obtain rfl:=Option.some.inj he
   refine hv hx ?_
   simp only[vr] at hx
   obtain⟨f',a',c',hxe,hf,ha,_⟩:=hx
   have:f'=.method name:=hf
   subst this
   simp only[vrl,vr] at ha
   obtain⟨z,zs,hz,⟨u,rfl,_⟩,_⟩:=ha
   have h0:a'[0]?=some (.iface t u):=by rw[←Array.getElem?_toList,hz];rfl
   unfold execOp
   rw[ho]
   simp only[hxe,h0,Sem.run_bind,program,Sem.run,zYO hm,Result.andThen]
   simp
 ·cases he
set_option maxHeartbeats 1000000 in
theorem zyW (h:WR g get n w) {nid:Nat} (hf:ZDc get n nid) {regs:T V} {a:Act} (hR:RR g.I (g.at get n) regs a.tmps) {o:Oper} {hm:Bool} {e:Eff} (hx:(exec P hm o.op).run regs get nid=some e):ZDn P o a g get n w nid e:=by
 cases ho:o.op with
 |move x=>
  rw[ho] at hx
  obtain⟨v,hv,he⟩:=QE hx
  obtain rfl:=Option.some.inj he
  exact zad h (by unfold execOp;rw[ho];rfl) (zQ hR hv)
 |assign x=>
  rw[ho] at hx
  obtain⟨v,hv,he⟩:=QE hx
  obtain rfl:=Option.some.inj he
  exact zad h (by unfold execOp;rw[ho];rfl) (zQ hR hv)
 |pick c x y=>
  rw[ho] at hx
  obtain⟨cv,hc,hx⟩:=QE hx
  obtain⟨xv,yv,h1,h2,he⟩:=zbE hx
  have hcv:=zQ hR hc
  unfold ZCE at he
  split at he
  ·rename_i b
   obtain rfl:=Option.some.inj he
   simp only[vr] at hcv
   refine zad h (x:=if b then a.eval x else a.eval y) ?_ ?_
   ·unfold execOp
    rw[ho]
    simp only[hcv,asBool,Sem.run_bind,Sem.run_pure,Result.andThen]
   ·cases b
    ·exact zQ hR h2
    ·exact zQ hR h1
  ·cases he
 |alloc t=>
  rw[ho] at hx
  simp only[exec] at hx
  cases hz:zeroOf P t with
  |none=> simp[hz,X.no] at hx
  |some z=>
   simp only[hz] at hx
   obtain rfl:=Option.some.inj hx
   exact zPq h hf ho hz
 |box t x=>
  rw[ho] at hx
  obtain⟨v,hv,he⟩:=QE hx
  obtain rfl:=Option.some.inj he
  exact zPE h hf ho (zQ hR hv)
 |build t ps=>
  rw[ho] at hx
  simp only[exec] at hx
  cases hp:ZEw regs ps.toList with
  |none=> simp[hp] at hx
  |some vs=>
   simp only[hp] at hx
   obtain⟨v,hv,rfl⟩:=QI hx
   obtain⟨k1,k2⟩:=zCP hR hp
   have hps:(ps.map fun p=> (p.1,a.eval p.2)).toList=ps.toList.map fun (p:Nat×Operand)=> (p.1,a.eval p.2):=by simp
   exact Qk h (zQw ho) (zPF (xs:=ps.map fun p=> (p.1,a.eval p.2)) (by rw[hps];exact k1) (by rw[hps];exact k2) hv w)
 |buildSlice t len ps=>
  rw[ho] at hx
  simp only[exec] at hx
  cases hp:ZEw regs ps.toList with
  |none=> simp[hp] at hx
  |some vs=>
   simp only[hp] at hx
   cases hl:ZE1 P t len vs with
   |none=> simp[hl] at hx
   |some q=>
    obtain⟨cs,sz⟩:=q
    simp only[hl] at hx
    obtain⟨k1,k2⟩:=zCP hR hp
    exact zXd h hf ho k1 k2 hl hx
 |load t x=>
  rw[ho] at hx
  obtain⟨v,hv,he⟩:=QE hx
  exact zXf h ho (zQ hR hv) he
 |store t x y=>
  rw[ho] at hx
  simp only[exec] at hx
  split at hx
  ·rename_i hok
   obtain⟨u,v,h1,h2,he⟩:=zbE hx
   exact zY1 h ho (zQ hR h1) (zQ hR h2) hok he
  ·cases hx
 |nilCheck x=>
  rw[ho] at hx
  obtain⟨v,hv,he⟩:=QE hx
  exact zX0 h ho (zQ hR hv) he
 |binOp op t x y ty=>
  rw[ho] at hx
  obtain⟨u,v,h1,h2,he⟩:=zbE hx
  obtain⟨z,hz,rfl⟩:=QI he
  refine Qk h (s:=do eqGuard op t x y (a.eval x) (a.eval y);binOp op t (a.eval x) (a.eval y)) (by unfold execOp;rw[ho]) (zDr (P:=P) (zQ hR h1) (zQ hR h2) ?_ ?_ hz w)
  ·intro hc;cases x <;> simp at hc⊢
  ·intro hc;cases y <;> simp at hc⊢
 |unOp op t x=>
  rw[ho] at hx
  obtain⟨v,hv,he⟩:=QE hx
  have hvr:=zQ hR hv
  unfold xUn at he
  split at he
  ·obtain rfl:=Option.some.inj he
   simp only[vr] at hvr
   exact Qk h (s:=Op.unary .not (a.eval x)) (by unfold execOp;rw[ho]) ⟨_,by rw[hvr];rfl,by simp only[vr]⟩
  ·obtain rfl:=Option.some.inj he
   simp only[vr] at hvr
   exact Qk h (s:=Op.unary .neg (a.eval x)) (by unfold execOp;rw[ho]) ⟨_,by rw[hvr];rfl,by simp only[vr]⟩
  ·cases he
 |convert src dst x=>
  rw[ho] at hx
  simp only[exec] at hx
  split at hx
  ·rename_i hsrc
   obtain⟨v,hv,he⟩:=QE hx
   have hvr:=zQ hR hv
   unfold ZFG at he
   split at he
   ·rename_i hd
    obtain rfl:=Option.some.inj he
    simp only[vr] at hvr
    refine Qk h (s:=convert src dst (a.eval x)) (by unfold execOp;rw[ho]) ⟨_,?_,by simp only[vr];rfl⟩
    unfold convert
    rw[Sem.run_bind,zjl hsrc w]
    simp only[Result.andThen,Sem.run_bind,zn hd (by simp) w,hvr]
    cases und P src <;> rfl
   ·rename_i hd
    obtain rfl:=Option.some.inj he
    simp only[vr] at hvr
    refine Qk h (s:=convert src dst (a.eval x)) (by unfold execOp;rw[ho]) ⟨_,?_,by simp only[vr];rfl⟩
    unfold convert
    rw[Sem.run_bind,zjl hsrc w]
    simp only[Result.andThen,Sem.run_bind,zn hd (by simp) w,hvr]
    cases und P src <;> rfl
   ·cases he
  ·cases hx
 |makeInterface t x=>
  rw[ho] at hx
  simp only[exec] at hx
  split at hx
  ·cases hx
  ·rename_i hni
   split at hx
   ·rename_i hok
    obtain⟨v,hv,he⟩:=QE hx
    obtain rfl:=Option.some.inj he
    refine Qk h (s:=Instr.makeInterface t (a.eval x)) (by unfold execOp;rw[ho]) ⟨.iface t (a.eval x),?_,by simp only[vr];exact⟨_,rfl,zQ hR hv⟩⟩
    unfold Instr.makeInterface
    rw[Sem.run_bind,zjl hok w]
    simp only[Result.andThen]
    cases hd:und P t <;> first|rfl|exact(hni _ hd).elim
   ·cases hx
 |makeFunc f first captured=>
  rw[ho] at hx
  simp only[exec] at hx
  split at hx
  ·cases h1:rds regs first.toList with
   |none=> simp[h1] at hx
   |some as=>
    cases h2:rds regs captured.toList with
    |none=> simp[h1,h2] at hx
    |some bs=>
     simp only[h1,h2] at hx
     obtain rfl:=Option.some.inj hx
     exact Qk h (s:=Instr.makeFunc _ (first.map a.eval) (captured.map a.eval)) (by unfold execOp;rw[ho]) ⟨_,rfl,by simp only[vr];exact⟨_,_,_,rfl,rfl,zwp hR h1,zwp hR h2⟩⟩
  ·cases h1:rds regs first.toList with
   |none=> simp[h1] at hx
   |some as=>
    cases h2:rds regs captured.toList with
    |none=> simp[h1,h2] at hx
    |some bs=>
     simp only[h1,h2] at hx
     obtain rfl:=Option.some.inj hx
     exact Qk h (s:=Instr.makeFunc _ (first.map a.eval) (captured.map a.eval)) (by unfold execOp;rw[ho]) ⟨_,rfl,by simp only[vr];exact⟨_,_,_,rfl,rfl,zwp hR h1,zwp hR h2⟩⟩
  ·cases hx
 |makeMap t r=>
  rw[ho] at hx
  cases r with
  |none=>
   simp only[exec] at hx
   obtain rfl:=Option.some.inj hx
   exact zXB h hf ho
  |some r=> cases hx
 |makeSlice t x y=>
  rw[ho] at hx
  simp only[exec] at hx
  split at hx
  ·rename_i el hd
   obtain⟨u,v,h1,h2,he⟩:=zbE hx
   cases u with
   |int k l=>
    cases v with
    |int k' c=>
     simp only[asI] at he
     have e1:=zQ hR h1
     have e2:=zQ hR h2
     simp only[vr] at e1 e2
     exact zXC h hf ho hd e1 e2 he
    |_=> cases he
   |_=> cases he
  ·cases hx
 |slice t x lo hi mx=>
  rw[ho] at hx
  simp only[exec] at hx
  cases h1:rd regs x with
  |none=> simp[h1] at hx
  |some xv=>
   cases h2:rdo regs lo with
   |none=> simp[h1,h2] at hx
   |some lov=>
    cases h3:rdo regs hi with
    |none=> simp[h1,h2,h3] at hx
    |some hiv=>
     cases h4:rdo regs mx with
     |none=> simp[h1,h2,h3,h4] at hx
     |some mxv=>
      simp only[h1,h2,h3,h4] at hx
      obtain⟨z,hz,rfl⟩:=QI hx
      exact Qk h (s:=Instr.sliceAt t (a.eval x) (lo.map a.eval) (hi.map a.eval) (mx.map a.eval)) (by unfold execOp;rw[ho]) (zYY (zQ hR h1) (zCF hR h2) (zCF hR h3) (zCF hR h4) hz w)
 |fieldAddr t x f=>
  rw[ho] at hx
  simp only[exec] at hx
  cases hfd:ZFc P t f with
  |none=> simp[hfd,X.no] at hx
  |some fd=>
   simp only[hfd] at hx
   split at hx
   ·cases hx
   ·rename_i hz
    obtain⟨v,hv,he⟩:=QE hx
    obtain⟨z,hz',rfl⟩:=QI he
    exact Qk h (s:=Instr.fieldAt t (a.eval x) f) (by unfold execOp;rw[ho]) (zQC hfd hz (zQ hR hv) hz' w)
 |field t x f=>
  rw[ho] at hx
  simp only[exec] at hx
  cases hfd:ZFc P t f with
  |none=> simp[hfd,X.no] at hx
  |some fd=>
   simp only[hfd] at hx
   obtain⟨v,hv,he⟩:=QE hx
   unfold ZG6 at he
   split at he
   ·obtain⟨z,hz',rfl⟩:=QI he
    exact Qk h (s:=Instr.field t (a.eval x) f) (by unfold execOp;rw[ho]) (zQD hfd (zQ hR hv) hz' w)
   ·cases he
 |indexAddr t x i=>
  rw[ho] at hx
  obtain⟨u,v,h1,h2,he⟩:=zbE hx
  obtain⟨z,hz,rfl⟩:=QI he
  exact Qk h (s:=Instr.indexAt t (a.eval x) (a.eval i)) (by unfold execOp;rw[ho]) (zQ9 (zQ hR h1) (zQ hR h2) hz w)
 |index t x i=>
  rw[ho] at hx
  obtain⟨u,v,h1,h2,he⟩:=zbE hx
  have e1:=zQ hR h1
  have e2:=zQ hR h2
  unfold ZG7 at he
  split at he
  ·rename_i hd
   simp only[vr] at e1 e2
   obtain⟨xs,hxs,hl⟩:=e1
   split at he
   ·rename_i hc
    obtain⟨c1,c2,c3⟩:=hc
    obtain⟨z,hz,rfl⟩:=QI he
    obtain⟨y,hy,hyv⟩:=zyt (P:=P) hl hz w
    refine Qk h (s:=Instr.index t (a.eval x) (a.eval i)) (by unfold execOp;rw[ho]) ⟨y,?_,hyv⟩
    unfold Instr.index
    simp only[hxs,e2,asIntOf,Sem.run_bind,Sem.run_pure,Result.andThen,zn hd (by simp) w,if_pos (And.intro c1 c2),QH c3 w,hy]
   ·cases he
  ·rename_i hd
   simp only[vr] at e1 e2
   split at he
   ·rename_i hc
    obtain⟨z,hz,rfl⟩:=QI he
    rename_i b k ii
    cases hb:b.data.toList[ii.toNat]? with
    |none=> rw[hb] at hz;cases hz
    |some cc=>
     rw[hb] at hz
     obtain rfl:=Option.some.inj hz
     refine Qk h (s:=Instr.index t (a.eval x) (a.eval i)) (by unfold execOp;rw[ho]) ⟨.int .u8 cc.toNat,?_,by simp only[vr]⟩
     have hb':b[ii.toNat]?=some cc:=by
      have:b.data[ii.toNat]?=some cc:=by simpa using hb
      obtain⟨hlt,hv⟩:=Array.getElem?_eq_some_iff.1 this
      rw[getElem?_pos b ii.toNat hlt]
      exact congrArg some hv
     unfold Instr.index
     simp only[e1,e2,asIntOf,Sem.run_bind,Sem.run_pure,Result.andThen,zn hd (by simp) w,if_pos hc,hb']
   ·cases he
  ·cases he
 |lookup t x i ok=>
  rw[ho] at hx
  obtain⟨u,v,h1,h2,he⟩:=zbE hx
  obtain⟨q1,q2,hr⟩:=zXA (P:=P) h (zQ hR h1) (zQ hR h2) he
  obtain⟨ev,er,ew,en,ep⟩:=e
  simp only at q1 q2;subst q1 q2
  exact Qk h (s:=Instr.lookup t (a.eval x) (a.eval i) ok) (by unfold execOp;rw[ho]) hr
 |mapUpdate t m k x=>
  rw[ho] at hx
  obtain⟨mv,h0,hx⟩:=QE hx
  obtain⟨u,v,h1,h2,he⟩:=zbE hx
  exact zXF h (by unfold execOp;rw[ho]) (zQ hR h0) (zQ hR h1) (zQ hR h2) he
 |insert t m k x=>
  rw[ho] at hx
  obtain⟨mv,h0,hx⟩:=QE hx
  obtain⟨u,v,h1,h2,he⟩:=zbE hx
  exact zXD h (by unfold execOp;rw[ho]) (zQ hR h0) (zQ hR h1) (zQ hR h2) he
 |range t x=>
  rw[ho] at hx
  simp only[exec] at hx
  split at hx
  ·rename_i hd
   obtain⟨v,hv,he⟩:=QE hx
   exact zYr h hf ho hd (zQ hR hv) he
  ·cases hx
 |entry x=>
  rw[ho] at hx
  obtain⟨v,hv,he⟩:=QE hx
  exact zQp h ho (zQ hR hv) he
 |typeAssert x xt t ok=>
  rw[ho] at hx
  obtain⟨v,hv,he⟩:=QE hx
  have e1:=zQ hR hv
  have hex:execOp a.eval o=(do pure (.value (←Instr.typeAssert (a.eval x) xt t ok))):=by unfold execOp;rw[ho]
  unfold ZG5 at he
  split at he
  ·cases he
  ·cases he
  ·rename_i hni hnv
   obtain⟨d,hd⟩:∃d,und P t=d:=⟨_,rfl⟩
   have hdv:d≠.invalid:=fun hh=> hnv (by rw[hd,hh])
   have fail:∀{z:V} {s d:Option TypeId} {m:String},zeroOf P t=some z→ok=true→∃y,((if ok then (do pure (.tuple #[←zeroValue t,.bool false])) else runtimePanic (.typeAssertion s d t m):Sem Value)).run P w=.ok y w∧vr g.I (g.at get n) (.tup [z,.bool false]) y:=by
    intro z s d m hz hok
    obtain⟨zx,hzr,hzv⟩:=zws hz w
    refine⟨.tuple #[zx,.bool false],?_,?_⟩
    ·rw[if_pos hok,Sem.run_bind,hzr];rfl
    ·simp only[vr,vrl];exact⟨_,rfl,_,_,rfl,hzv _ _,_,_,rfl,rfl,rfl⟩
   split at he
   ·rename_i t' u
    simp only[vr] at e1
    obtain⟨y,hy,hyv⟩:=e1
    split at he
    ·rename_i htt
     obtain rfl:=Option.some.inj he
     refine Qk h hex ⟨if ok then .tuple #[y,.bool true] else y,?_,?_⟩
     ·unfold Instr.typeAssert
      rw[Sem.run_bind,zn hd hdv w,hy]
      cases d <;> first|exact absurd hd (hni _)|(simp only[Result.andThen,htt,if_true];rfl)
     ·cases ok
      ·exact hyv
      ·simp only[vr,vrl,if_true];exact⟨_,rfl,_,_,rfl,hyv,_,_,rfl,rfl,rfl⟩
    ·rename_i htt
     split at he
     ·rename_i hok
      split at he
      ·rename_i z hz
       obtain rfl:=Option.some.inj he
       obtain⟨y',q1,q2⟩:=fail (s:=some xt) (d:=some t') (m:= "") hz hok
       refine Qk h hex ⟨y',?_,q2⟩
       unfold Instr.typeAssert
       rw[Sem.run_bind,zn hd hdv w,hy]
       cases d <;> first|exact absurd hd (hni _)|(simp only[Result.andThen,htt,if_false];exact q1)
      ·cases he
     ·cases he
   ·simp only[vr] at e1
    split at he
    ·rename_i hok
     split at he
     ·rename_i z hz
      obtain rfl:=Option.some.inj he
      obtain⟨y',q1,q2⟩:=fail (s:=some xt) (d:=none) (m:= "") hz hok
      refine Qk h hex ⟨y',?_,q2⟩
      unfold Instr.typeAssert
      rw[Sem.run_bind,zn hd hdv w,e1]
      cases d <;> first|exact absurd hd (hni _)|(simp only[Result.andThen];exact q1)
     ·cases he
    ·cases he
   ·cases he
 |extract x i=>
  rw[ho] at hx
  obtain⟨v,hv,he⟩:=QE hx
  unfold ZC6 at he
  split at he
  ·obtain⟨z,hz,rfl⟩:=QI he
   have e1:=zQ hR hv
   simp only[vr] at e1
   obtain⟨ys,hys,hl⟩:=e1
   obtain⟨y,hy,hyv⟩:=zab hl hz
   have hy':ys[i]?=some y:=by simpa using hy
   refine Qk h (s:=Instr.extract (a.eval x) i) (by unfold execOp;rw[ho]) ⟨y,?_,hyv⟩
   unfold Instr.extract
   simp only[hys,hy',Sem.run_pure]
  ·cases he
 |call c=>
  rw[ho] at hx
  simp only[exec] at hx
  split at hx
  ·rename_i b hb
   cases hargs:rds regs c.args.toList with
   |none=> simp[hargs] at hx
   |some args=>
    simp only[hargs] at hx
    have hA:=zwp hR hargs
    obtain⟨consts,hrun⟩:=zQx (P:=P) (a:=a) ho hb w
    unfold ZmL at hx
    split at hx
    ·
     split at hx
     ·rename_i t0 x0 hts
      simp only[vrl] at hA
      obtain⟨x',xs,hxe,hv,rfl⟩:=hA
      obtain⟨q1,q2,y,hy,hyv⟩:=zWC (P:=P) h hv hx
      obtain⟨ev,er,ew,en,ep⟩:=e
      simp only at q1 q2;subst q1 q2
      refine zad h (x:=y) ?_ hyv
      rw[hrun,zwz hts,zwz hxe]
      have:=hy o.type
      simp only[builtin,Sem.run_bind]
      rw[this];rfl
     ·cases hx
    ·
     split at hx
     ·rename_i t0 u0 s0 x0 hts
      simp only[vrl] at hA
      obtain⟨s',xs,hxe,hs,x',xs',rfl,hv,rfl⟩:=hA
      split at hx
      ·cases hx
      ·rename_i du el hd hni
       split at hx
       ·cases hx
       ·rename_i hok
        have hok':okU P u0=true∧okZ P el=true:=by
         constructor
         ·cases hq:okU P u0 with
          |true=> rfl
          |false=> exact absurd (.inl hq) hok
         ·cases hq:okZ P el with
          |true=> rfl
          |false=> exact absurd (.inr hq) hok
        obtain⟨hok,hz⟩:=hok'
        cases hsc:ZC9 get x0 with
        |none=> simp[hsc] at hx
        |some q=>
         obtain⟨cs,m,rs⟩:=q
         simp only[hsc] at hx
         split at hx
         ·cases hx
         ·rename_i hcc
          have hone:V.ones cs=true:=by
           cases hq:V.ones cs with
           |true=> rfl
           |false=> exact absurd (.inl hq) hcc
          have hcl:cs.length=m * ZmI P el:=by
           by_cases hq:cs.length=m * ZmI P el
           ·exact hq
           ·exact absurd (.inr hq) hcc
          have hint:∀k,und P u0≠.int k:=fun k hq=> hni k hq
          have fin:∀{y w'},(Builtin.append_ #[t0,u0] o.type #[s',x']).run P w=.ok y w'→(execOp a.eval o).run P w=.ok (.value y) w':=by
           intro y w' hy
           rw[hrun,zwz hts,zwz hxe]
           simp only[builtin,Sem.run_bind]
           rw[hy];rfl
          split at hx
          ·rename_i hm0
           subst hm0
           obtain⟨ys,hn,hlen,hfirst⟩:=zOM (P:=P) h hv hsc hcl
           have hys:ys=[]:=by
            have:=Zg hn
            rw[hcl] at this
            exact List.length_eq_zero_iff.1 (by simpa using this)
           subst hys
           split at hx
           ·obtain rfl:=Option.some.inj hx
            have hs2:=hs
            simp only[vr] at hs2;subst hs2
            exact zad h (fin (zjs hd hok hint hz (base:=none) (sLen:=0) (sCap:=0) hlen (by omega) (hfirst w rfl) rfl)) hs
           ·obtain rfl:=Option.some.inj hx
            have hs2:=hs
            simp only[vr] at hs2
            obtain⟨b1,o1,cap1,rfl,hlc,_⟩:=hs2
            exact zad h (fin (zjs hd hok hint hz hlen (by omega) (hfirst w rfl) rfl)) hs
           ·obtain rfl:=Option.some.inj hx
            have hs2:=hs
            simp only[vr] at hs2
            obtain⟨b1,c1,rfl,_,_,_,hlc,hcc1,_⟩:=hs2
            exact zad h (fin (zjs hd hok hint hz hlen (by omega) (hfirst w rfl) rfl)) hs
           ·cases hx
          ·rename_i hm0
           obtain⟨y,w',g',hy,hW,hE,hvv⟩:=zPu (P:=P) h hf hd hok hint hs hv hsc hone hcl hm0 hx o.type
           exact⟨y,w',g',.inl (fin hy),hW,hE,hvv⟩
      ·cases hx
     ·cases hx
    ·
     split at hx
     ·obtain⟨z,hz,rfl⟩:=QI hx
      simp only[vrl] at hA
      obtain⟨x',xs,hxe,hv,hl⟩:=hA
      obtain⟨y,hy,hyv⟩:=zNM (P:=P) hv hl hz w
      refine zad h (x:=y) ?_ hyv
      rw[hrun]
      simp only[builtin,Sem.run_bind,Builtin.max_,hxe]
      rw[hy];rfl
     ·cases hx
    ·
     split at hx
     ·obtain⟨z,hz,rfl⟩:=QI hx
      simp only[vrl] at hA
      obtain⟨x',xs,hxe,hv,hl⟩:=hA
      obtain⟨y,hy,hyv⟩:=zNP (P:=P) hv hl hz w
      refine zad h (x:=y) ?_ hyv
      rw[hrun]
      simp only[builtin,Sem.run_bind,Builtin.min_,hxe]
      rw[hy];rfl
     ·cases hx
    ·cases hx
  ·cases hx
 |_=> rw[ho] at hx;cases hx
end
end
section
variable {P:Program}
theorem zde {g:G} {get get':Nat→Blk} {n:Nat} (h:∀j,j < n→get j=get' j):g.at get n=g.at get' n:=by
 unfold G.at
 congr 1
 ·funext r o a;apply propext;constructor <;> (rintro⟨h1,h2⟩;exact⟨h1,by first|(rw[←h r h1];exact h2)|(rw[h r h1];exact h2)⟩)
 ·funext r o l c s e a m;apply propext;constructor <;> (rintro⟨h1,h2⟩;exact⟨h1,by first|(rw[←h r h1];exact h2)|(rw[h r h1];exact h2)⟩)
 ·funext r b;apply propext;constructor <;> (rintro⟨h1,h2⟩;exact⟨h1,by first|(rw[←h r h1];exact h2)|(rw[h r h1];exact h2)⟩)
 ·funext r b;apply propext;constructor <;> (rintro⟨h1,h2⟩;exact⟨h1,by first|(rw[←h r h1];exact h2)|(rw[h r h1];exact h2)⟩)
 ·funext r e b k c;apply propext;constructor <;> (rintro⟨h1,h2⟩;exact⟨h1,by first|(rw[←h r h1];exact h2)|(rw[h r h1];exact h2)⟩)
theorem WR.congr {g:G} {get get':Nat→Blk} {n:Nat} {w:World} (h:∀j,j < n→get j=get' j) (hW:WR g get n w):WR g get' n w where
 imm:=hW.imm
 blk r hr:=by
  have hb:=hW.blk r hr
  rw[h r hr] at hb
  have ha:=zde (g:=g) h
  cases hg:get' r with
  |iter m ver left cur=>
   rw[hg] at hb
   cases m with
   |none=> exact hb
   |some m=>
    obtain⟨h1,h2,h3,since,seen,last,h4,h5,h6⟩:=hb
    refine⟨h1,by rw[←h m h1];exact h2,h3,since,seen,last,h4,fun es ver' hq=> h5 es ver' (by rw[h m h1];exact hq),fun es hq=> ?_⟩
    rw[←ha]
    exact h6 es (by rw[h m h1];exact hq)
  |loop fn regs params assign body pend st d=>
   rw[hg] at hb
   obtain⟨L,h1,h2,h3,h5,h6,h7,h8,h9,h10,h11⟩:=hb
   exact⟨L,h1,h2,h3,h5,h6,h7,by rw[←ha];exact h8,h9,by rw[←h d h9];exact h10,h11⟩
  |row k cs=> rw[hg] at hb;simp only[ZEK] at hb⊢;rw[←ha];exact hb
  |map es ver=> rw[hg] at hb;simp only[ZEK] at hb⊢;rw[←ha];exact hb
  |tok hw=> rw[hg] at hb;exact hb
  |dfr=> rw[hg] at hb;exact hb
  |gone=> trivial
  |resv=> trivial
 inj r r' hr hr' hl hl':=hW.inj r r' hr hr' (by rw[h r hr];exact hl) (by rw[h r' hr'];exact hl')
theorem zwX {g:G} {get get':Nat→Blk} {n:Nat} (h:∀j,j < n→get j=get' j) {b:Nat}:g.img get n b↔g.img get' n b:=by
 constructor
 ·rintro⟨r,h1,h2,h3⟩;exact⟨r,h1,by rw[←h r h1];exact h2,h3⟩
 ·rintro⟨r,h1,h2,h3⟩;exact⟨r,h1,by rw[h r h1];exact h2,h3⟩
theorem Ext.congr {g g':G} {get get1 get' get1':Nat→Blk} {n n':Nat} {w w':World} (h:∀j,j < n→get j=get1 j) (h':∀j,j < n'→get' j=get1' j) (e:Ext g get n w g' get' n' w'):Ext g get1 n w g' get1' n' w' where
 n_le:=e.n_le
 I_le:=e.I_le
 I_new b o x hx:=by
  rcases e.I_new b o x hx with h1|h1|h1
  ·exact .inl h1
  ·exact .inr (.inl h1)
  ·exact .inr (.inr ((zwX h).1 h1))
 size:=e.size
 frame b hb hn:=e.frame b hb fun hi=> hn ((zwX h).1 hi)
 back b hb hi:=(zwX h).1 (e.back b hb ((zwX h').2 hi))
 ids r hr hf:=by
  have hr':=Nat.lt_of_lt_of_le hr e.n_le
  obtain⟨a1,a2⟩:=e.ids r hr (by rw[h r hr];exact hf)
  exact⟨by rw[←h' r hr'];exact a1,a2⟩
 kept r hr hk:=by rw[←h' r (Nat.lt_of_lt_of_le hr e.n_le)];exact e.kept r hr (by rw[h r hr];exact hk)
 toks r hr hw hw' e1 e2:=e.toks r hr hw hw' (by rw[h r hr];exact e1) (by rw[h' r (Nat.lt_of_lt_of_le hr e.n_le)];exact e2)
 maps r hr es ver hg:=by rw[←h' r (Nat.lt_of_lt_of_le hr e.n_le)];exact e.maps r hr es ver (by rw[h r hr];exact hg)
 tape:=e.tape
 os:=e.os
 output:=e.output
theorem zD6:∀(l:List (Nat×Blk)) {h:H},h.wf→(l.foldl (fun h (p:Nat×Blk)=> h.set p.1 p.2) h).wf∧(l.foldl (fun h (p:Nat×Blk)=> h.set p.1 p.2) h).n=h.n∧∀j,j < h.n→(l.foldl (fun h (p:Nat×Blk)=> h.set p.1 p.2) h).get j=ZDs h.get l j
 |[],h,hw=> ⟨hw,rfl,fun _ _=> rfl⟩
 |(r,b)::l,h,hw=> by
  obtain⟨h1,h2,h3⟩:=zD6 l (H.wf_set hw r b)
  refine⟨h1,h2,fun j hj=> ?_⟩
  simp only[List.foldl_cons]
  rw[h3 j hj]
  show ZDs (h.set r b).get l j=ZDs (upd h.get r b) l j
  have key:∀(l:List (Nat×Blk)) (p q:Nat→Blk),p j=q j→ZDs p l j=ZDs q l j:=by
   intro l
   induction l with
   |nil=> intro p q hpq;exact hpq
   |cons x l ih=>
    intro p q hpq
    obtain⟨r',b'⟩:=x
    refine ih _ _ ?_
    unfold upd
    split
    ·rfl
    ·exact hpq
  refine key l _ _ ?_
  rw[H.get_set hw]
  unfold upd
  by_cases hjr:j=r
  ·rw[if_pos ⟨hjr,by omega⟩,if_pos hjr]
  ·rw[if_neg (fun hh=> hjr hh.1),if_neg hjr]
theorem zNX:∀(l:List Blk) {h:H},h.wf→(h.news l).wf∧(h.news l).n=h.n+l.length∧∀(get:Nat→Blk),(∀j,j < h.n→h.get j=get j)→∀j,j < h.n+l.length→(h.news l).get j=ZEy get h.n l j
 |[],h,hw=> ⟨hw,rfl,fun get hg j hj=> hg j hj⟩
 |b::l,h,hw=> by
  obtain⟨h1,h2,h3⟩:=zNX l (H.wf_new hw b)
  have hn:(h.new b).n=h.n+1:=rfl
  refine⟨h1,by show(H.news (h.new b) l).n=_;rw[h2,hn,List.length_cons];omega,fun get hg j hj=> ?_⟩
  show(H.news (h.new b) l).get j=ZEy (upd get h.n b) (h.n+1) l j
  refine h3 (upd get h.n b) (fun i hi=> ?_) j (by rw[hn];simp only[List.length_cons] at hj;omega)
  rw[H.get_new hw]
  unfold upd
  by_cases hi':i=h.n
  ·rw[if_pos hi',if_pos hi']
  ·rw[if_neg hi',if_neg hi'];exact hg i (by rw[hn] at hi;omega)
theorem Eff.apply_get (e:Eff) {h:H} (hw:h.wf):(e.apply h).wf∧(e.apply h).n=e.top h.n h.n∧∀j,j < (e.apply h).n→(e.apply h).get j=e.upd h.get h.n j:=by
 obtain⟨h1,h2,h3⟩:=zD6 e.wr hw
 obtain⟨k1,k2,k3⟩:=zNX e.nw h1
 refine⟨k1,?_,fun j hj=> ?_⟩
 ·show(H.news _ e.nw).n=_
  rw[k2,h2]
  unfold Eff.top
  cases e.nw with
  |nil=> rfl
  |cons b l=> simp only;omega
 ·have:=k3 (ZDs h.get e.wr) (fun i hi=> h3 i (by rw[h2] at hi;exact hi)) j (by rw[←k2];exact hj)
  rw[h2] at this
  exact this
theorem zEc {h:H}:ZDc h.get h.n h.n:=⟨Nat.le_refl _,fun hh=> absurd hh (Nat.lt_irrefl _)⟩
def dfR (g:G) (get:Nat→Blk) (n:Nat):List D→List Deferred→Prop
 |[],ds=> ds=[]
 |.call f cap args::l,ds=> ∃d ds',ds=d::ds'∧(∃c,d.target=.fn (.func f) c∧vrl g.I (g.at get n) cap c.toList∧vrl g.I (g.at get n) args d.args.toList)∧dfR g get n l ds'
 |.mark r::l,ds=> ∃ds',ds={target:=.collected (g.mu r),args:=#[]}::ds'∧r < n∧(get r).firm=true∧dfR g get n l ds'
theorem Ql {g g':G} {get get':Nat→Blk} {n n':Nat} {w w':World} (e:Ext g get n w g' get' n' w'):∀{l:List D} {ds:List Deferred},dfR g get n l ds→dfR g' get' n' l ds
 |[],_,h=> h
 |.call _ _ _::_,_,⟨d,ds',h1,⟨c,h2,h3,h4⟩,h5⟩=> ⟨d,ds',h1,⟨c,h2,e.vrl h3,e.vrl h4⟩,Ql e h5⟩
 |.mark r::_,_,⟨ds',h1,h2,h3,h4⟩=> by
  obtain⟨i1,i2,_⟩:=e.ids r h2 h3
  exact⟨ds',by rw[i2];exact h1,Nat.lt_of_lt_of_le h2 e.n_le,i1,Ql e h4⟩
structure SR (g:G) (s:St) (a:Act) (w:World):Prop where
 wf:s.h.wf
 rr:RR g.I (g.at s.h.get s.h.n) s.regs a.tmps
 wr:WR g s.h.get s.h.n w
 df:dfR g s.h.get s.h.n s.dfs a.defers
abbrev ZCX (g:G) (h:H) (w:World) (g':G) (h':H) (w':World):Prop:=Ext g h.get h.n w g' h'.get h'.n w'
theorem zda {I:Imm} {A:At} {regs:T V} {a:Act} (h:RR I A regs a.tmps) (dst:Option Tmp) {v:V} {x:Value} (hv:vr I A v x):RR I A (put regs dst v) (a.put dst x).tmps:=by
 cases dst with
 |none=> exact h
 |some d=> exact h.set d hv
theorem zaa (a:Act) (dst:Option Tmp) (x:Value):(a.put dst x).defers=a.defers:=by cases dst <;> rfl
theorem zQh {g:G} {s:St} {a:Act} {w:World} (hS:SR g s a w) {o:Oper} {e:Eff} (hc:ZDn P o a g s.h.get s.h.n w s.h.n e):
 ∃x w' g',Gives P o a w x w'∧SR g' (s.eff o e) (a.put o.dst x) w'∧ZCX g s.h w g' (s.eff o e).h w':=by
 obtain⟨x,w',g',hg,hW,hE,hv⟩:=hc
 obtain⟨k1,k2,k3⟩:=e.apply_get hS.wf
 have k3':∀j,j < e.top s.h.n s.h.n→e.upd s.h.get s.h.n j=(e.apply s.h).get j:=fun j hj=> (k3 j (by rw[k2];exact hj)).symm
 have ha:=zde (g:=g') k3'
 have hE':Ext g s.h.get s.h.n w g' (e.apply s.h).get (e.apply s.h).n w':=by rw[k2];exact hE.congr (fun _ _=> rfl) k3'
 refine⟨x,w',g',hg,⟨k1,?_,?_,?_⟩,hE'⟩
 ·show RR g'.I (g'.at (e.apply s.h).get (e.apply s.h).n) (put s.regs o.dst e.v) _
  refine zda (hE'.rr hS.rr) o.dst ?_
  rw[k2,←ha];exact hv
 ·show WR g' (e.apply s.h).get (e.apply s.h).n w'
  rw[k2];exact hW.congr k3'
 ·show dfR g' (e.apply s.h).get (e.apply s.h).n s.dfs _
  rw[zaa]
  exact Ql hE' hS.df
def ZC7 (g:G):Option Nat→Fence
 |none=> Fence.wide
 |some l=> Fence.wide.inRound (g.mu l)
theorem za6 (g:G) (r:Option Nat) (f:FuncId):(ZC7 g r).fn f:=by cases r <;> trivial
theorem zyY (g:G) (r:Option Nat):(ZC7 g r).depth=none:=by cases r <;> rfl
theorem zy7 {g:G} {r:Option Nat} {o:Oper} {a:Act} {w w':World} {x:Value} (hnd:∀c,o.op≠.defer c) (h:Gives P o a w x w') {K:Act→World→Prop} {Q:Exit→Act→World→Prop} (hk:K (a.put o.dst x) w'):o.wpIn (ZC7 g r) 0 P a w K Q:=by
 refine⟨fun f _=> za6 g r f,?_⟩
 rw[Oper.semAt_eq _ _ _ hnd]
 rcases h with h|⟨h,rfl⟩
 ·rw[h];exact hk
 ·rw[h];exact hk
end
section
variable {P:Program}
structure At.shiftLe (A B:At) (k:Nat):Prop where
 ptr:∀r o x,A.ptr r o x→B.ptr (k+r) o x
 hs:∀r o l c s e x m,A.hs r o l c s e x m→B.hs (k+r) o l c s e x m
 map:∀r x,A.map r x→B.map (k+r) x
 yld:∀r x,A.yld r x→B.yld (k+r) x
 tok:∀r e b q c,A.tok r e b q c→B.tok (k+r) e b q c
mutual
theorem zkv {I:Imm} {A B:At} {k:Nat} (hs:A.shiftLe B k):∀{v:V} {x:Value},vr I A v x→vr I B (v.shift k) x
 |.bool _,_,h=> by simpa[V.shift,vr] using h
 |.int _ _,_,h=> by simpa[V.shift,vr] using h
 |.str _,_,h=> by simpa[V.shift,vr] using h
 |.nilp,_,h=> by simpa[V.shift,vr] using h
 |.ptr _ _,_,h=> by
  simp only[V.shift,vr] at h⊢
  obtain⟨a,e,h⟩:=h
  exact⟨a,e,hs.ptr _ _ _ h⟩
 |.iptr _,_,h=> by simpa[V.shift,vr] using h
 |.nils,_,h=> by simpa[V.shift,vr] using h
 |.ze,_,h=> by simpa[V.shift,vr] using h
 |.vs _ _ _ .tight,_,h=> by simpa[V.shift,vr,ZFB] using h
 |.vs _ _ _ .lock,_,h=> by simpa[V.shift,vr,ZFB] using h
 |.vs _ _ _ (.tok _ _),_,h=> by
  simp only[V.shift,vr] at h⊢
  obtain⟨b,o,cap,e,h1,h2,h3,h4⟩:=h
  refine⟨b,o,cap,e,h1,h2,h3,?_⟩
  rcases h4 with ⟨h,b',k',c',h'⟩|h
  ·exact .inl ⟨h,b',k',c',hs.tok _ _ _ _ _ h'⟩
  ·exact .inr (hs.tok _ _ _ _ _ h)
 |.hs _ _ _ _ _ _,_,h=> by
  simp only[V.shift,vr] at h⊢
  obtain⟨a,m,e,h⟩:=h
  exact⟨a,m,e,hs.hs _ _ _ _ _ _ _ _ h⟩
 |.nilm,_,h=> by simpa[V.shift,vr] using h
 |.map _,_,h=> by
  simp only[V.shift,vr] at h⊢
  obtain⟨a,e,h⟩:=h
  exact⟨a,e,hs.map _ _ h⟩
 |.fn f _ _,_,h=> by
  simp only[V.shift,vr] at h⊢
  obtain⟨f',a',c',e,h1,h2,h3⟩:=h
  refine⟨f',a',c',e,?_,zwx hs h2,zwx hs h3⟩
  cases f <;> cases f' <;> first|exact hs.yld _ _ h1|exact h1
 |.nilf,_,h=> by simpa[V.shift,vr] using h
 |.iface _ _,_,h=> by
  simp only[V.shift,vr] at h⊢
  obtain⟨y,e,h⟩:=h
  exact⟨y,e,zkv hs h⟩
 |.nilif,_,h=> by simpa[V.shift,vr] using h
 |.agg _,_,h=> by
  simp only[V.shift,vr] at h⊢
  obtain⟨y,e,h⟩:=h
  exact⟨y,e,zwx hs h⟩
 |.tup _,_,h=> by
  simp only[V.shift,vr] at h⊢
  obtain⟨y,e,h⟩:=h
  exact⟨y,e,zwx hs h⟩
theorem zwx {I:Imm} {A B:At} {k:Nat} (hs:A.shiftLe B k):∀{vs:List V} {xs:List Value},vrl I A vs xs→vrl I B (V.shifts k vs) xs
 |[],_,h=> by simpa[V.shifts,vrl] using h
 |_::_,_,h=> by
  simp only[V.shifts,vrl] at h⊢
  obtain⟨x,xs,e,h1,h2⟩:=h
  exact⟨x,xs,e,zkv hs h1,zwx hs h2⟩
end
theorem zOJ (k:Nat):∀(l:List V) (i:Nat),(V.shifts k l)[i]?=l[i]?.map (V.shift k)
 |[],i=> by simp[V.shifts]
 |v::l,0=> by simp[V.shifts]
 |v::l,i+1=> by simpa[V.shifts] using zOJ k l i
theorem zOK (k:Nat):∀(l:List V),(V.shifts k l).length=l.length
 |[]=> rfl
 |v::l=> by simp[V.shifts,zOK k l]
theorem zDM {I:Imm} {A B:At} {k:Nat} (hs:A.shiftLe B k):∀{l:List (V×V)} {es:List MapEntry},ZCZ I A l es→ZCZ I B (ZFD k l) es
 |[],_,h=> h
 |(_,_)::_,_,⟨e,es',h,h1,h2,h3⟩=> ⟨e,es',h,zkv hs h1,zkv hs h2,zDM hs h3⟩
theorem zC1 (k:Nat):∀l:List (V×V),ZFD k l=l.map fun p=> (p.1.shift k,p.2.shift k)
 |[]=> rfl
 |(a,b)::l=> by simp only[ZFD,List.map_cons,zC1 k l]
theorem zQr {I:Imm} {A B:At} {k:Nat} (hs:A.shiftLe B k) {l:List (V×V)} {es:List MapEntry}:ZEL I A l es→ZEL I B (ZFD k l) es
 |⟨l',h,h1⟩=> ⟨ZFD k l',by rw[zC1,zC1];exact h.map _,zDM hs h1⟩
def ZDV (get:Nat→Blk) (n nid k:Nat):Prop:=nid≤n∧∀j,nid≤j→j < nid+k→j < n→get j=.resv
def ZED (get get1:Nat→Blk) (nid k:Nat):Nat→Blk:=fun j=> if nid≤j∧j < nid+k then (get1 (j - nid)).shift nid else get j
def ZEb (g g1:G) (nid k:Nat):G where
 I:=g1.I
 mu j:=if nid≤j∧j < nid+k then g1.mu (j - nid) else g.mu j
 base j:=if nid≤j∧j < nid+k then g1.base (j - nid) else g.base j
 ts j:=if nid≤j∧j < nid+k then g1.ts (j - nid) else g.ts j
theorem zyv {b:Blk} {k:Nat} (h:b.firm=true):(b.shift k).firm=true:=by cases b <;> first|rfl|cases h
theorem zYV {b:Blk} {k hw:Nat} (h:b.shift k=.tok hw):b=.tok hw:=by cases b <;> first|exact h|cases h
theorem zC2 {b:Blk} {k:Nat} (h:(b.shift k).live=true):b.live=true:=by cases b <;> first|rfl|cases h
theorem zEr {g g1:G} {get get1:Nat→Blk} {n nid k:Nat}:(g1.at get1 k).shiftLe ((ZEb g g1 nid k).at (ZED get get1 nid k) (max n (nid+k))) nid:=by
 have hc:∀{r},r < k→nid≤nid+r∧nid+r < nid+k:=fun h=> by omega
 have e0:∀r,nid+r - nid=r:=fun r=> by omega
 have eg:∀{r},r < k→ZED get get1 nid k (nid+r)=(get1 r).shift nid:=fun {r} h=> by unfold ZED;rw[if_pos (hc h),e0]
 have em:∀{r},r < k→(ZEb g g1 nid k).mu (nid+r)=g1.mu r:=fun {r} h=> by show(if _ then _ else _)=_;rw[if_pos (hc h),e0]
 have eb:∀{r},r < k→(ZEb g g1 nid k).base (nid+r)=g1.base r:=fun {r} h=> by show(if _ then _ else _)=_;rw[if_pos (hc h),e0]
 have et:∀{r},r < k→(ZEb g g1 nid k).ts (nid+r)=g1.ts r:=fun {r} h=> by show(if _ then _ else _)=_;rw[if_pos (hc h),e0]
 refine⟨?_,?_,?_,?_,?_⟩
 ·rintro r o x ⟨h1,h2,rfl⟩
  exact⟨by omega,by rw[eg h1];exact zyv h2,by rw[em h1,eb h1]⟩
 ·rintro r o l c s e x m ⟨h1,h2,rfl,h3,h4,h5,h6⟩
  exact⟨by omega,by rw[eg h1];exact zyv h2,by rw[em h1,eb h1],h3,h4,h5,by rw[eb h1,et h1];exact h6⟩
 ·rintro r x ⟨h1,h2,rfl⟩
  exact⟨by omega,by rw[eg h1];exact zyv h2,by rw[em h1]⟩
 ·rintro r x ⟨h1,h2,rfl⟩
  exact⟨by omega,by rw[eg h1];exact zyv h2,by rw[em h1]⟩
 ·rintro r e b q c ⟨h1,h2,h3⟩
  refine⟨by omega,?_,fun hw hg=> ?_⟩
  ·rw[eg h1];cases hb:get1 r <;> first|simp[Blk.shift]|exact absurd hb h2
  ·rw[eg h1] at hg
   obtain⟨a1,a2⟩:=h3 hw (zYV hg)
   exact⟨a1,fun e'=> by obtain⟨b1,b2,b3⟩:=a2 e';exact⟨by rw[em h1];exact b1,by rw[eb h1];exact b2,by rw[et h1];exact b3⟩⟩
theorem zQ7 {g:G} {get:Nat→Blk} {n:Nat} {w:World} (h:WR g get n w) {g1:G} {get1:Nat→Blk} {k:Nat} {w1:World} (h1:WR g1 get1 k w1) {get0:Nat→Blk} (e1:Ext g get0 0 w g1 get1 k w1) {nid:Nat} (hf:ZDV get n nid k):
 WR (ZEb g g1 nid k) (ZED get get1 nid k) (max n (nid+k)) w1∧Ext g get n w (ZEb g g1 nid k) (ZED get get1 nid k) (max n (nid+k)) w1:=by
 have himg:∀b,¬g.img get0 0 b:=fun b ⟨r,hr,_⟩=> by omega
 have e0:∀r,nid+r - nid=r:=fun r=> by omega
 have hres:∀j,j < n→nid≤j∧j < nid+k→get j=.resv:=fun j hj hc=> hf.2 j hc.1 hc.2 hj
 refine WR.go (fun j=> nid≤j∧j < nid+k) (fun _=> False) h (Nat.le_max_left _ _) ?_ ?_ e1.size (fun b hb _=> e1.frame b hb (himg b)) (fun _ _ hd=> hd.elim) e1.I_le ?_ (fun b o x hx _=> h1.imm b o x hx) ?_ ?_ ?_ ?_ ?_ ?_ e1.tape e1.os e1.output ?_ ?_
 ·intro j _ hc;exact⟨if_neg hc,if_neg hc,if_neg hc,if_neg hc⟩
 ·intro j a b;have:=hf.1;omega
 ·intro b o x hx
  rcases e1.I_new b o x hx with a|a|a
  ·exact .inl a
  ·exact .inr (.inl a)
  ·exact absurd a (himg b)
 ·intro j hj hc hfm;rw[hres j hj hc] at hfm;cases hfm
 ·intro j hj hc hk;exact absurd (hres j hj hc) hk
 ·intro j hj hc hw hw' e;rw[hres j hj hc] at e;cases e
 ·intro j _ hc hl
  refine .inl ?_
  have em:(ZEb g g1 nid k).mu j=g1.mu (j - nid):=if_pos hc
  have eg:ZED get get1 nid k j=(get1 (j - nid)).shift nid:=if_pos hc
  rw[em]
  rw[eg] at hl
  rcases Nat.lt_or_ge (g1.mu (j - nid)) w.heap.size with hh|hh
  ·exact absurd (e1.back _ hh ⟨j - nid,by omega,zC2 hl,rfl⟩) (himg _)
  ·exact hh
 ·intro j j' _ _ hc hc' hl hl' hm
  have em:(ZEb g g1 nid k).mu j=g1.mu (j - nid):=if_pos hc
  have eg:ZED get get1 nid k j=(get1 (j - nid)).shift nid:=if_pos hc
  have em':(ZEb g g1 nid k).mu j'=g1.mu (j' - nid):=if_pos hc'
  have eg':ZED get get1 nid k j'=(get1 (j' - nid)).shift nid:=if_pos hc'
  rw[eg] at hl;rw[eg'] at hl';rw[em,em'] at hm
  have:=h1.inj (j - nid) (j' - nid) (by omega) (by omega) (zC2 hl) (zC2 hl') hm
  omega
 ·intro r m ver left cur hr hc hg hcm es ver' _
  have hbl:=h.blk r hr
  rw[hg] at hbl
  obtain⟨m1,m2,_⟩:=hbl
  rw[hres m m1 hcm] at m2;cases m2
 ·intro e j hj hc
  have em:(ZEb g g1 nid k).mu j=g1.mu (j - nid):=if_pos hc
  have eb:(ZEb g g1 nid k).base j=g1.base (j - nid):=if_pos hc
  have et:(ZEb g g1 nid k).ts j=g1.ts (j - nid):=if_pos hc
  have eg:ZED get get1 nid k j=(get1 (j - nid)).shift nid:=if_pos hc
  have hb:=h1.blk (j - nid) (by omega)
  rw[eg]
  have hat:=zEr (g:=g) (g1:=g1) (get:=get) (get1:=get1) (n:=n) (nid:=nid) (k:=k)
  cases hg:get1 (j - nid) with
  |row q cs=>
   rw[hg] at hb
   obtain⟨c,el,a1,a2,a3,a4,a5⟩:=hb
   refine⟨c,el,by rw[em];exact a1,by rw[et];exact a2,by rw[eb,zOK];exact a3,fun i v hv=> ?_,fun o ho=> by rw[em];rw[eb] at ho;exact a5 o ho⟩
   rw[zOJ] at hv
   cases hu:cs[i]? with
   |none=> rw[hu] at hv;cases hv
   |some u=>
    rw[hu] at hv
    obtain rfl:=Option.some.inj hv
    obtain⟨x,hx,hxv⟩:=a4 i u hu
    exact⟨x,by rw[eb];exact hx,zkv hat hxv⟩
  |tok hw=>
   rw[hg] at hb
   obtain⟨c,el,a1,a2,a3,a5⟩:=hb
   exact⟨c,el,by rw[em];exact a1,by rw[et];exact a2,by rw[eb];exact a3,fun o ho=> by rw[em];rw[eb] at ho;exact a5 o ho⟩
  |map es ver=>
   rw[hg] at hb
   obtain⟨ents,clock,a1,a2,a3⟩:=hb
   exact⟨ents,clock,by rw[em];exact a1,zQr hat a2,a3⟩
  |_=> trivial
 ·intro j hj hc es ver e;rw[hres j hj hc] at e;cases e
end
section
variable {P:Program}
def ZDf (g1:G) (w w1:World) (ex:Nat→Nat→Prop):Imm:=fun b o=>
 match g1.I b o with
 |some x=> some x
 |none=> open Classical in if w.heap.size≤b∧¬ex b o then w1.cell? ⟨b,o,none⟩ else none
section
variable {g g1:G} {get get0 get1:Nat→Blk} {n k:Nat} {w w1:World}
theorem zb2 (ex:Nat→Nat→Prop):g1.I.le (ZDf g1 w w1 ex):=fun b o x hx=> by
 unfold ZDf;rw[hx]
theorem zkJ {ex:Nat→Nat→Prop} {b o:Nat} {x:Value} (h:ZDf g1 w w1 ex b o=some x):g1.I b o=some x∨(w.heap.size≤b∧¬ex b o∧w1.cell? ⟨b,o,none⟩=some x):=by
 unfold ZDf at h
 split at h
 ·rename_i y hy;rw[hy];exact .inl h
 ·split at h
  ·rename_i hc;exact .inr ⟨hc.1,hc.2,h⟩
  ·cases h
theorem zQm (h1:WR g1 get1 k w1) {ex:Nat→Nat→Prop} {b o:Nat} {x:Value} (hb:w.heap.size≤b) (he:¬ex b o) (hx:w1.cell? ⟨b,o,none⟩=some x):ZDf g1 w w1 ex b o=some x:=by
 unfold ZDf
 split
 ·rename_i y hy
  have:=h1.imm b o y hy
  rw[hx] at this
  rw[this]
 ·rw[if_pos ⟨hb,he⟩];exact hx
theorem zyc {f:V→Option V}:∀{l l':List V},ZC5 f l=some l'→l'.length=l.length∧∀(i:Nat) (v':V),l'[i]?=some v'→∃v,l[i]?=some v∧f v=some v'
 |[],l',h=> by simp[ZC5] at h;subst h;simp
 |v::l,l',h=> by
  simp only[ZC5] at h
  cases h1:f v with
  |none=> simp[h1] at h
  |some u=>
   cases h2:ZC5 f l with
   |none=> simp[h1,h2] at h
   |some us=>
    simp[h1,h2] at h;subst h
    obtain⟨q1,q2⟩:=zyc h2
    refine⟨by simp[q1],fun i v' hv=> ?_⟩
    cases i with
    |zero=> simp at hv;subst hv;exact⟨v,rfl,h1⟩
    |succ i=> simp at hv;simpa using q2 i v' hv
theorem zEa (h1:WR g1 get1 k w1) (e1:Ext g get0 0 w g1 get1 k w1) {ex:Nat→Nat→Prop} (hex:∀r,r < k→∀q cs,get1 r=.row q cs→∀o,¬ex (g1.mu r) o) {hh:H} (hhg:∀j,hh.get j=get1 j):
 ∀(m:Nat) {v v':V} {x:Value},freeze hh m v=some v'→vr g1.I (g1.at get1 k) v x→vr (ZDf g1 w w1 ex) At.bot v' x:=by
 have himg:∀b,¬g.img get0 0 b:=fun b ⟨r,hr,_⟩=> by omega
 intro m
 induction m with
 |zero=> intro v v' x h;cases h
 |succ m ih=>
  intro v v' x h hv
  have hlist:∀{l l':List V} {xs:List Value},ZC5 (freeze hh m) l=some l'→vrl g1.I (g1.at get1 k) l xs→vrl (ZDf g1 w w1 ex) At.bot l' xs:=by
   intro l l' xs hm hl
   obtain⟨q1,q2⟩:=zyc hm
   refine zky (by rw[Zg hl,q1]) fun i u' hu=> ?_
   obtain⟨u,hu1,hu2⟩:=q2 i u' hu
   obtain⟨y,hy,hyv⟩:=zab hl hu1
   exact⟨y,hy,ih hu2 hyv⟩
  have hpure:∀{u:V},(if u.pure then some u else none)=some v'→u=v→vr (ZDf g1 w w1 ex) At.bot v' x:=by
   intro u hu huv
   subst huv
   split at hu
   ·rename_i hp
    obtain rfl:=Option.some.inj hu
    exact Qv (zb2 ex) (At.le_refl _) (zku hp hv)
   ·cases hu
  unfold freeze at h
  split at h
  ·
   rename_i r off len cap sz exx
   simp only[vr] at hv
   obtain⟨a,c,rfl,hr,hfm,rfl,hlc,hcc,hexx,hts⟩:=hv
   split at h
   ·rename_i q cs hgr
    have hgr':get1 r=.row q cs:=by rw[←hhg];exact hgr
    split at h
    ·rename_i hle
     cases hm:ZC5 (freeze hh m) ((cs.drop off).take (len * sz)) with
     |none=> simp[hm] at h
     |some cs'=>
      simp only[hm] at h
      obtain rfl:=Option.some.inj h
      obtain⟨cc,el,xs,a1,a2,a3,a4,a5,a6,a7⟩:=zkm h1 hr hgr'
      have hmu:w.heap.size≤g1.mu r:=by
       rcases Nat.lt_or_ge (g1.mu r) w.heap.size with q1|q1
       ·exact absurd (e1.back _ q1 ⟨r,hr,by rw[hgr'];rfl,rfl⟩) (himg _)
       ·exact q1
      have hl:=hlist hm (zjo (zb0 a4 off) (len * sz))
      have hhd:=(a6.drop off).take (len * sz)
      have hlen:cs'.length=len * sz:=by
       rw[(zyc hm).1,List.length_take,List.length_drop];omega
      simp only[vr]
      refine⟨g1.mu r,g1.base r+off,c,rfl,by omega,hlen,zkx hl fun i y hy=> zQm h1 hmu (hex r hr q cs hgr' _) (hhd i y hy),?_⟩
      split
      ·rename_i hcond
       rw[Bool.and_eq_true,beq_iff_eq] at hcond
       have:=hexx hcond.1
       show c=len
       omega
      ·trivial
    ·cases h
   ·cases h
  ·rename_i cs len sz r e
   obtain rfl:=Option.some.inj h
   have:=zyE hv
   simp only[V.shut] at this
   exact Qv (zb2 ex) (At.le_refl _) (zku rfl this)
  ·rename_i cs
   cases hm:ZC5 (freeze hh m) cs with
   |none=> simp[hm] at h
   |some cs'=>
    simp[hm] at h;subst h
    simp only[vr] at hv⊢
    obtain⟨ys,e,hl⟩:=hv
    exact⟨ys,e,hlist hm hl⟩
  ·rename_i cs
   cases hm:ZC5 (freeze hh m) cs with
   |none=> simp[hm] at h
   |some cs'=>
    simp[hm] at h;subst h
    simp only[vr] at hv⊢
    obtain⟨ys,e,hl⟩:=hv
    exact⟨ys,e,hlist hm hl⟩
  ·exact hpure h rfl
theorem zyS (h:WR g get n w) (h1:WR g1 get1 k w1) (e1:Ext g get0 0 w g1 get1 k w1) (ex:Nat→Nat→Prop):
 WR (g.withI (ZDf g1 w w1 ex)) get n w1∧Ext g get n w (g.withI (ZDf g1 w w1 ex)) get n w1:=by
 have himg:∀b,¬g.img get0 0 b:=fun b ⟨r,hr,_⟩=> by omega
 refine WR.go (fun _=> False) (fun _=> False) h (Nat.le_refl _) ?_ ?_ e1.size (fun b hb _=> e1.frame b hb (himg b)) (fun _ _ hd=> hd.elim) (Imm.le_trans e1.I_le (zb2 ex)) ?_ ?_ ?_ ?_ ?_ ?_ ?_ ?_ e1.tape e1.os e1.output ?_ ?_
 ·intro r _ _;exact⟨rfl,rfl,rfl,rfl⟩
 ·intro r a b;omega
 ·intro b o x hx
  rcases zkJ hx with a|⟨a,_⟩
  ·rcases e1.I_new b o x a with q|q|q
   ·exact .inl q
   ·exact .inr (.inl q)
   ·exact absurd q (himg b)
  ·exact .inr (.inl a)
 ·intro b o x hx _
  rcases zkJ hx with a|⟨_,_,a⟩
  ·exact h1.imm b o x a
  ·exact a
 all_goals first
  |(intro r _ hc;exact hc.elim)
  |(intro r r' _ _ hc;exact hc.elim)
  |(intro r m ver left cur _ _ _ hc;exact hc.elim)
  |(intro _ r _ hc;exact hc.elim)
theorem zDG (h:WR g get n w) (h1:WR g1 get1 k w1) (e1:Ext g get0 0 w g1 get1 k w1) {r hw:Nat} (hr:r < k) (hg:get1 r=.tok hw) {nid:Nat} (hf:ZDc get n nid):
 WR ((g.withI (ZDf g1 w w1 fun b o=> b=g1.mu r∧g1.base r≤o)).put nid (g1.mu r) (g1.base r) (g1.ts r)) (upd get nid (.tok hw)) (max n (nid+1)) w1∧
 Ext g get n w ((g.withI (ZDf g1 w w1 fun b o=> b=g1.mu r∧g1.base r≤o)).put nid (g1.mu r) (g1.base r) (g1.ts r)) (upd get nid (.tok hw)) (max n (nid+1)) w1:=by
 have himg:∀b,¬g.img get0 0 b:=fun b ⟨r,hr,_⟩=> by omega
 have hres:∀j,j < n→j=nid→get j=.resv:=fun j hj e=> by subst e;exact hf.2 hj
 have hmu:w.heap.size≤g1.mu r:=by
  rcases Nat.lt_or_ge (g1.mu r) w.heap.size with q1|q1
  ·exact absurd (e1.back _ q1 ⟨r,hr,by rw[hg];rfl,rfl⟩) (himg _)
  ·exact q1
 have hb:=h1.blk r hr
 rw[hg] at hb
 obtain⟨c,el,a1,a2,a3,a5⟩:=hb
 refine WR.go (fun j=> j=nid) (fun _=> False) h (Nat.le_max_left _ _) ?_ ?_ e1.size (fun b hb _=> e1.frame b hb (himg b)) (fun _ _ hd=> hd.elim) (Imm.le_trans e1.I_le (zb2 _)) ?_ ?_ ?_ ?_ ?_ ?_ ?_ ?_ e1.tape e1.os e1.output ?_ ?_
 ·intro j _ hc;exact⟨J7 _ _ hc,if_neg hc,if_neg hc,if_neg hc⟩
 ·intro j a b;have:=hf.1;omega
 ·intro b o x hx
  have hx:ZDf g1 w w1 (fun b o=> b=g1.mu r∧g1.base r≤o) b o=some x:=hx
  rcases zkJ hx with a|⟨a,_⟩
  ·rcases e1.I_new b o x a with q|q|q
   ·exact .inl q
   ·exact .inr (.inl q)
   ·exact absurd q (himg b)
  ·exact .inr (.inl a)
 ·intro b o x hx _
  have hx:ZDf g1 w w1 (fun b o=> b=g1.mu r∧g1.base r≤o) b o=some x:=hx
  rcases zkJ hx with a|⟨_,_,a⟩
  ·exact h1.imm b o x a
  ·exact a
 ·intro j hj hc hfm;rw[hres j hj hc] at hfm;cases hfm
 ·intro j hj hc hk;exact absurd (hres j hj hc) hk
 ·intro j hj hc hw hw' e;rw[hres j hj hc] at e;cases e
 ·intro j _ hc _;subst hc;exact .inl (by simpa[G.put] using hmu)
 ·intro j j' _ _ hc hc' _ _ _;rw[hc,hc']
 ·intro j m ver left cur _ _ _ hcm es ver' he;subst hcm;rw[zG] at he;cases he
 ·intro e j _ hc
  subst hc
  rw[zG]
  have hm1:((g.withI (ZDf g1 w w1 fun b o=> b=g1.mu r∧g1.base r≤o)).put j (g1.mu r) (g1.base r) (g1.ts r)).mu j=g1.mu r:=if_pos rfl
  refine⟨c,el,by rw[hm1];exact a1,by simpa[G.put] using a2,by simpa[G.put] using a3,fun o ho=> ?_⟩
  have ho':g1.base r≤o:=by simpa[G.put] using ho
  rw[hm1]
  show ZDf g1 w w1 (fun b o=> b=g1.mu r∧g1.base r≤o) (g1.mu r) o=none
  cases hx:ZDf g1 w w1 (fun b o=> b=g1.mu r∧g1.base r≤o) (g1.mu r) o with
  |none=> rfl
  |some x=>
   rcases zkJ hx with a|⟨_,a,_⟩
   ·rw[a5 o ho'] at a;cases a
   ·exact absurd ⟨rfl,ho'⟩ a
 ·intro j hj hc es ver e;rw[hres j hj hc] at e;cases e
end
end
section
variable {P:Program}
def R.v:R→V
 |.ret v|.pan v=> v
def R.isPan:R→Bool
 |.ret _=> false
 |.pan _=> true
def ZDH (g:G) (get:Nat→Blk) (n:Nat) (w:World) (nid:Nat) (e:Eff) (x:Value) (w':World):Prop:=
 ∃g',WR g' (e.upd get nid) (e.top n nid) w'∧Ext g get n w g' (e.upd get nid) (e.top n nid) w'∧vr g'.I (g'.at (e.upd get nid) (e.top n nid)) e.v x
theorem zdc:∀(l:List Blk) (get:Nat→Blk) (nid j:Nat),ZEy get nid l j=if nid≤j∧j < nid+l.length then l.getD (j - nid) .gone else get j
 |[],get,nid,j=> by
  rw[if_neg (by simp only[List.length_nil];omega)];rfl
 |b::l,get,nid,j=> by
  show ZEy (upd get nid b) (nid+1) l j=_
  rw[zdc l]
  by_cases h1:nid+1≤j∧j < nid+1+l.length
  ·rw[if_pos h1,if_pos (by simp only[List.length_cons];omega)]
   rw[show j - nid=(j - (nid+1))+1 by omega,List.getD_cons_succ]
  ·rw[if_neg h1]
   by_cases h2:j=nid
   ·subst h2
    rw[if_pos (by simp only[List.length_cons];omega),zG,Nat.sub_self,List.getD_cons_zero]
   ·rw[if_neg (by simp only[List.length_cons];omega),J7 _ _ h2]
theorem zb1 (h:H) (n:Nat):∀k i,(ZDe h n k i).length=k
 |0,_=> rfl
 |k+1,i=> by simp only[ZDe,List.length_cons,zb1 h n k (i+1)]
theorem zkG (h:H) (n:Nat):∀k i j,j < k→(ZDe h n k i).getD j .gone=(h.get (i+j)).shift n
 |0,_,_,hj=> by omega
 |k+1,i,0,_=> rfl
 |k+1,i,j+1,hj=> by
  show(ZDe h n k (i+1)).getD j .gone=_
  rw[zkG h n k (i+1) j (by omega),show i+1+j=i+(j+1) by omega]
section
variable {g g1:G} {get get0:Nat→Blk} {n:Nat} {w w1:World} {h1:H}
theorem zQ6 (hW:WR g get n w) (hW1:WR g1 h1.get h1.n w1) (e1:Ext g get0 0 w g1 h1.get h1.n w1) {v:V} {x:Value} (hv:vr g1.I (g1.at h1.get h1.n) v x) {nid:Nat} (hf:ZDV get n nid h1.n):
 ZDH g get n w nid {v:=v.shift nid,nw:=ZDe h1 nid h1.n 0} x w1:=by
 obtain⟨k1,k2⟩:=zQ7 hW hW1 e1 hf
 have hg:Eff.upd {v:=v.shift nid,nw:=ZDe h1 nid h1.n 0} get nid=ZED get h1.get nid h1.n:=by
  funext j
  show ZEy get nid (ZDe h1 nid h1.n 0) j=_
  rw[zdc,zb1]
  unfold ZED
  by_cases hc:nid≤j∧j < nid+h1.n
  ·rw[if_pos hc,if_pos hc,zkG _ _ _ _ _ (by omega),Nat.zero_add]
  ·rw[if_neg hc,if_neg hc]
 have ht:Eff.top {v:=v.shift nid,nw:=ZDe h1 nid h1.n 0} n nid=max n (nid+h1.n):=by
  unfold Eff.top
  cases hk:h1.n with
  |zero=> have:=hf.1;show n=_;omega
  |succ k=> show max n (nid+(ZDe h1 nid (k+1) 0).length)=_;rw[zb1]
 refine⟨ZEb g g1 nid h1.n,?_,?_,?_⟩
 ·rw[hg,ht];exact k1
 ·rw[hg,ht];exact k2
 ·rw[hg,ht];exact zkv zEr hv
theorem zD9 {p:Bool} (hW:WR g get n w) (hW1:WR g1 h1.get h1.n w1) (e1:Ext g get0 0 w g1 h1.get h1.n w1) {v v':V} {x:Value} (hv:vr g1.I (g1.at h1.get h1.n) v x) {m:Nat} (hfz:freeze h1 m v=some v') {nid:Nat}:
 ZDH g get n w nid {v:=v',pan:=p} x w1:=by
 obtain⟨k1,k2⟩:=zyS hW hW1 e1 (fun _ _=> False)
 exact⟨_,k1,k2,Qv (Imm.le_refl _) (At.bot_le _) (zEa hW1 e1 (fun _ _ _ _ _ _ hc=> hc) (fun _=> rfl) m hfz hv)⟩
theorem zOT {cs:List V} {len sz r e:Nat} {x:Value} (hv:vr g1.I (g1.at h1.get h1.n) (.vs cs len sz (.tok r e)) x)
 (hr:h1.get r=.tok e) {nid:Nat}:
 vr ((g.withI (ZDf g1 w w1 fun b o=> b=g1.mu r∧g1.base r≤o)).put nid (g1.mu r) (g1.base r) (g1.ts r)).I
  (((g.withI (ZDf g1 w w1 fun b o=> b=g1.mu r∧g1.base r≤o)).put nid (g1.mu r) (g1.base r) (g1.ts r)).at (upd get nid (.tok e)) (max n (nid+1))) (.vs cs len sz (.tok nid e)) x:=by
 simp only[vr] at hv⊢
 obtain⟨b,o,cap,rfl,q1,q2,q3,q4⟩:=hv
 refine⟨b,o,cap,rfl,q1,q2,zww (zb2 _) q3,?_⟩
 have key:∀b' k' c',(g1.at h1.get h1.n).tok r e b' k' c'→(((g.withI (ZDf g1 w w1 fun b o=> b=g1.mu r∧g1.base r≤o)).put nid (g1.mu r) (g1.base r) (g1.ts r)).at (upd get nid (.tok e)) (max n (nid+1))).tok nid e b' k' c':=by
  rintro b' k' c' ⟨_,_,q5⟩
  obtain⟨_,q6⟩:=q5 e hr
  obtain⟨q7,q8,q9⟩:=q6 rfl
  refine⟨by omega,by rw[zG];simp,fun hw hh=> ?_⟩
  rw[zG] at hh
  obtain rfl:=Blk.tok.inj hh
  refine⟨Nat.le_refl _,fun _=> ⟨?_,?_,?_⟩⟩
  ·show b'=if nid=nid then _ else _;rw[if_pos rfl];exact q7
  ·show _=if nid=nid then _ else _;rw[if_pos rfl];exact q8
  ·show _≤if nid=nid then _ else _;rw[if_pos rfl];exact q9
 rcases q4 with ⟨hc,b',k',c',hx⟩|hx
 ·exact .inl ⟨hc,b',k',c',key _ _ _ hx⟩
 ·exact .inr (key _ _ _ hx)
theorem zC6 {cs:List V} {len sz r e:Nat} {x:Value} (hv:vr g1.I (g1.at h1.get h1.n) (.vs cs len sz (.tok r e)) x):r < h1.n:=by
 simp only[vr] at hv
 obtain⟨b,o,cap,rfl,q1,q2,q3,q4⟩:=hv
 rcases q4 with ⟨_,_,_,_,hx⟩|hx <;> exact hx.1
theorem zY8 (hW1:WR g1 h1.get h1.n w1) {r e:Nat} (hlt:r < h1.n) (hr:h1.get r=.tok e):∀r',r' < h1.n→∀q cs,h1.get r'=.row q cs→∀o,¬(g1.mu r'=g1.mu r∧g1.base r≤o):=by
 intro r' hr' q cs hg o hc
 have:=hW1.inj r' r hr' hlt (by rw[hg];rfl) (by rw[hr];rfl) hc.1
 subst this
 rw[hr] at hg;cases hg
theorem zNE {I:Imm} {A:At} {cs:List V} {len sz r e:Nat} {x:Value} (hv:vr I A (.vs cs len sz (.tok r e)) x):vr I At.bot (.vs cs len sz .lock) x:=by
 have:=zyE hv
 simp only[V.shut] at this
 exact zku rfl this
theorem zEd (hW1:WR g1 h1.get h1.n w1) (e1:Ext g get0 0 w g1 h1.get h1.n w1) {ex:Nat→Nat→Prop} (hex:∀r,r < h1.n→∀q cs,h1.get r=.row q cs→∀o,¬ex (g1.mu r) o) {m:Nat} {l l':List V} {xs:List Value} (hm:ZC5 (freeze h1 m) l=some l') (hl:vrl g1.I (g1.at h1.get h1.n) l xs):vrl (ZDf g1 w w1 ex) At.bot l' xs:=by
 obtain⟨q1,q2⟩:=zyc hm
 refine zky (by rw[Zg hl,q1]) fun i u' hu=> ?_
 obtain⟨u,hu1,hu2⟩:=q2 i u' hu
 obtain⟨y,hy,hyv⟩:=zab hl hu1
 exact⟨y,hy,zEa hW1 e1 hex (fun _=> rfl) m hu2 hyv⟩
theorem ZDV.fresh {k:Nat} {nid:Nat} (h:ZDV get n nid (k+1)):ZDc get n nid:=⟨h.1,fun hh=> h.2 nid (Nat.le_refl _) (by omega) hh⟩
theorem zYA (hW:WR g get n w) (hW1:WR g1 h1.get h1.n w1) (e1:Ext g get0 0 w g1 h1.get h1.n w1) {v:V} {x:Value} (hv:vr g1.I (g1.at h1.get h1.n) v x) {nid:Nat} {e:Eff} (he:ZD3 nid h1 v=some e) (hf:ZDV get n nid e.nw.length):
 ZDH g get n w nid e x w1:=by
 have hdrop:=zyS hW hW1 e1 (fun _ _=> False)
 have hno:∀r,r < h1.n→∀q cs,h1.get r=.row q cs→∀o,¬(fun _ _=> False:Nat→Nat→Prop) (g1.mu r) o:=fun _ _ _ _ _ _ hc=> hc
 have hlock:∀{cs:List V} {len sz r k:Nat},v=.vs cs len sz (.tok r k)→ZDH g get n w nid {v:=.vs cs len sz .lock} x w1:=by
  intro cs len sz r k hvv
  subst hvv
  exact⟨_,hdrop.1,hdrop.2,Qv (zb2 _) (At.bot_le _) (zNE hv)⟩
 have hlock2:∀{cs:List V} {len sz r k:Nat} {vs vs':List V},v=.tup (.vs cs len sz (.tok r k)::vs)→ZC5 (freeze h1 60) vs=some vs'→ZDH g get n w nid {v:=.tup (.vs cs len sz .lock::vs')} x w1:=by
  intro cs len sz r k vs vs' hvv hm
  subst hvv
  refine⟨_,hdrop.1,hdrop.2,?_⟩
  rw[vr] at hv
  obtain⟨ys,rfl,hl⟩:=hv
  rw[vrl] at hl
  obtain⟨y,ys',q1,q2,q3⟩:=hl
  rw[vr]
  refine⟨ys,rfl,?_⟩
  rw[vrl]
  exact⟨y,ys',q1,Qv (zb2 _) (At.bot_le _) (zNE q2),QJ (Imm.le_refl _) (At.bot_le _) (zEd hW1 e1 hno hm q3)⟩
 have hlock3:∀{as cs:List V} {len sz r k:Nat} {u:V},v=.tup [.agg as,.vs cs len sz (.tok r k)]→freeze h1 60 (.agg as)=some u→ZDH g get n w nid {v:=.tup [u,.vs cs len sz .lock]} x w1:=by
  intro as cs len sz r k u hvv hm
  subst hvv
  refine⟨_,hdrop.1,hdrop.2,?_⟩
  rw[vr] at hv
  obtain⟨ys,rfl,hl⟩:=hv
  simp only[vrl] at hl
  obtain⟨y,ys',q1,q2,z,zs',q3,q4,q5⟩:=hl
  rw[vr]
  refine⟨ys,rfl,?_⟩
  simp only[vrl]
  exact⟨y,ys',q1,Qv (Imm.le_refl _) (At.bot_le _) (zEa hW1 e1 hno (fun _=> rfl) 60 hm q2),z,zs',q3,Qv (zb2 _) (At.bot_le _) (zNE q4),q5⟩
 unfold ZD3 at he
 split at he
 ·rename_i cs len sz r k
  split at he
  ·rename_i hw hg
   split at he
   ·rename_i hk
    subst hk
    obtain rfl:=Option.some.inj he
    obtain⟨k1,k2⟩:=zDG hW hW1 e1 (zC6 hv) hg (ZDV.fresh (k:=0) hf)
    exact⟨_,k1,k2,zOT hv hg⟩
   ·obtain rfl:=Option.some.inj he;exact hlock rfl
  ·obtain rfl:=Option.some.inj he;exact hlock rfl
 ·rename_i cs len sz r k vs
  split at he
  ·rename_i vs' hm
   split at he
   ·rename_i hw hg
    split at he
    ·rename_i hk
     subst hk
     obtain rfl:=Option.some.inj he
     rw[vr] at hv
     obtain⟨ys,rfl,hl⟩:=hv
     rw[vrl] at hl
     obtain⟨y,ys',q1,q2,q3⟩:=hl
     obtain⟨k1,k2⟩:=zDG hW hW1 e1 (zC6 q2) hg (ZDV.fresh (k:=0) hf)
     refine⟨_,k1,k2,?_⟩
     rw[vr]
     refine⟨ys,rfl,?_⟩
     rw[vrl]
     exact⟨y,ys',q1,zOT q2 hg,QJ (Imm.le_refl _) (At.bot_le _) (zEd hW1 e1 (zY8 hW1 (zC6 q2) hg) hm q3)⟩
    ·obtain rfl:=Option.some.inj he;exact hlock2 rfl hm
   ·obtain rfl:=Option.some.inj he;exact hlock2 rfl hm
  ·cases he
 ·rename_i as cs len sz r k
  split at he
  ·rename_i u hm
   split at he
   ·rename_i hw hg
    split at he
    ·rename_i hk
     subst hk
     obtain rfl:=Option.some.inj he
     rw[vr] at hv
     obtain⟨ys,rfl,hl⟩:=hv
     simp only[vrl] at hl
     obtain⟨y,ys',q1,q2,z,zs',q3,q4,q5⟩:=hl
     obtain⟨k1,k2⟩:=zDG hW hW1 e1 (zC6 q4) hg (ZDV.fresh (k:=0) hf)
     refine⟨_,k1,k2,?_⟩
     rw[vr]
     refine⟨ys,rfl,?_⟩
     simp only[vrl]
     exact⟨y,ys',q1,Qv (Imm.le_refl _) (At.bot_le _) (zEa hW1 e1 (zY8 hW1 (zC6 q4) hg) (fun _=> rfl) 60 hm q2),z,zs',q3,zOT q4 hg,q5⟩
    ·obtain rfl:=Option.some.inj he;exact hlock3 rfl hm
   ·obtain rfl:=Option.some.inj he;exact hlock3 rfl hm
  ·cases he
 ·split at he
  ·rename_i v' hfz
   obtain rfl:=Option.some.inj he
   exact zD9 hW hW1 e1 hv hfz
  ·cases he
theorem zWA {hint:Hint} (hW:WR g get n w) (hW1:WR g1 h1.get h1.n w1) (e1:Ext g get0 0 w g1 h1.get h1.n w1) {r:R} {x:Value} (hv:vr g1.I (g1.at h1.get h1.n) r.v x) {f:FuncId} {nid:Nat} {e:Eff} (he:ZE0 hint f nid (r,h1)=some e)
 (hf:ZDV get n nid e.nw.length):ZDH g get n w nid e x w1∧e.pan=r.isPan:=by
 have hrp:∀{v:V} {e:Eff},ZD3 nid h1 v=some e→e.pan=false:=by
  intro v e he
  unfold ZD3 at he
  split at he
  ·split at he
   ·split at he
    ·obtain rfl:=Option.some.inj he;rfl
    ·obtain rfl:=Option.some.inj he;rfl
   ·obtain rfl:=Option.some.inj he;rfl
  ·split at he
   ·split at he
    ·split at he
     ·obtain rfl:=Option.some.inj he;rfl
     ·obtain rfl:=Option.some.inj he;rfl
    ·obtain rfl:=Option.some.inj he;rfl
   ·cases he
  ·split at he
   ·split at he
    ·split at he
     ·obtain rfl:=Option.some.inj he;rfl
     ·obtain rfl:=Option.some.inj he;rfl
    ·obtain rfl:=Option.some.inj he;rfl
   ·cases he
  ·split at he
   ·obtain rfl:=Option.some.inj he;rfl
   ·cases he
 cases r with
 |pan v=>
  unfold ZE0 at he
  simp only at he
  split at he
  ·rename_i v' hfz
   obtain rfl:=Option.some.inj he
   exact⟨zD9 hW hW1 e1 hv hfz,rfl⟩
  ·cases he
 |ret v=>
 have hv:vr g1.I (g1.at h1.get h1.n) v x:=hv
 have himp:some {v:=v.shift nid,nw:=ZDe h1 nid h1.n 0}=some e→ZDH g get n w nid e x w1∧e.pan=(R.ret v).isPan:=by
  intro hh
  obtain rfl:=Option.some.inj hh
  refine⟨zQ6 hW hW1 e1 hv ⟨hf.1,fun j a b c=> hf.2 j a ?_ c⟩,rfl⟩
  show j < nid+(ZDe h1 nid h1.n 0).length
  rw[zb1];exact b
 unfold ZE0 at he
 simp only at he
 split at he
 ·exact himp he
 ·split at he
  ·rename_i e' hr
   obtain rfl:=Option.some.inj he
   exact⟨zYA hW hW1 e1 hv hr hf,hrp hr⟩
  ·exact himp he
end
end
section
variable {P:Program}
mutual
theorem V.beq_eq:∀{a b:V},V.beq a b=true→a=b
 |.bool _,.bool _,h=> by simp[V.beq] at h;rw[h]
 |.int _ _,.int _ _,h=> by simp[V.beq] at h;rw[h.1,h.2]
 |.str a,.str b,h=> by
  simp only[V.beq,decide_eq_true_eq] at h
  have:a=b:=by
   cases a with|mk da=> cases b with|mk db=>
    have:da=db:=Array.toList_inj.1 h
    rw[this]
  rw[this]
 |.nilp,.nilp,_=> rfl
 |.nils,.nils,_=> rfl
 |.nilm,.nilm,_=> rfl
 |.nilf,.nilf,_=> rfl
 |.nilif,.nilif,_=> rfl
 |.ptr _ _,.ptr _ _,h=> by simp[V.beq] at h;rw[h.1,h.2]
 |.iptr _,.iptr _,h=> by simp only[V.beq] at h;rw[V.beqs_eq h]
 |.vs _ _ _ o,.vs _ _ _ o',h=> by
  simp only[V.beq,Bool.and_eq_true] at h
  obtain⟨⟨⟨h1,h2⟩,h3⟩,h4⟩:=h
  have ho:o=o':=by
   cases o <;> cases o' <;> first|rfl|(simp at h3;done)|skip
   simp at h3;rw[h3.1,h3.2]
  rw[Nat.eq_of_beq_eq_true h1,Nat.eq_of_beq_eq_true h2,ho,V.beqs_eq h4]
 |.hs _ _ _ _ _ _,.hs _ _ _ _ _ _,h=> by
  simp[V.beq] at h
  obtain⟨⟨⟨⟨⟨h1,h2⟩,h3⟩,h4⟩,h5⟩,h6⟩:=h
  rw[h1,h2,h3,h4,h5,h6]
 |.map _,.map _,h=> by simp[V.beq] at h;rw[h]
 |.fn (.func _) _ _,.fn (.func _) _ _,h=> by
  simp only[V.beq,Bool.and_eq_true] at h
  rw[Nat.eq_of_beq_eq_true h.1.1,V.beqs_eq h.1.2,V.beqs_eq h.2]
 |.iface _ _,.iface _ _,h=> by
  simp only[V.beq,Bool.and_eq_true] at h
  rw[Nat.eq_of_beq_eq_true h.1,V.beq_eq h.2]
 |.agg _,.agg _,h=> by simp only[V.beq] at h;rw[V.beqs_eq h]
 |.tup _,.tup _,h=> by simp only[V.beq] at h;rw[V.beqs_eq h]
theorem V.beqs_eq:∀{a b:List V},V.beqs a b=true→a=b
 |[],[],_=> rfl
 |_::_,_::_,h=> by
  simp only[V.beqs,Bool.and_eq_true] at h
  rw[V.beq_eq h.1,V.beqs_eq h.2]
end
theorem Eff.same_eq {a b:Eff} (h:Eff.same a b=true):a=b:=by
 obtain⟨v,r,w,n,p⟩:=a
 obtain⟨v',r',w',n',p'⟩:=b
 simp only[Eff.same,Bool.and_eq_true] at h
 obtain⟨⟨⟨⟨h1,h2⟩,h3⟩,h4⟩,h5⟩:=h
 have e5:p=p':=by simpa using h5
 have e1:=V.beq_eq h1
 have e2:r=r':=by cases r <;> cases r' <;> first|rfl|cases h2
 have e3:w=w':=by cases w <;> cases w' <;> first|rfl|cases h3
 have e4:n=n':=by
  split at h4
  ·rfl
  ·rw[Nat.eq_of_beq_eq_true h4]
  ·cases h4
 rw[e1,e2,e3,e4,e5]
theorem zN7:∀{es:List Eff} {e:Eff},e∈es→e∈oneOf es
 |[],_,h=> h
 |[_],_,h=> h
 |a::b::l,e,h=> by
  simp only[oneOf]
  split
  ·rename_i hall
   rcases List.mem_cons.1 h with rfl|hm
   ·exact List.mem_singleton.2 rfl
   ·rw[←Eff.same_eq (List.all_eq_true.1 hall e hm)];exact List.mem_singleton.2 rfl
  ·exact h
theorem zjq {α β:Type} {f:α→Option β}:∀{l:List α} {l':List β},ZCT f l=some l'→∀x∈l,∃y∈l',f x=some y
 |[],_,_,x,hx=> by cases hx
 |a::l,l',h,x,hx=> by
  simp only[ZCT] at h
  cases h1:f a with
  |none=> simp[h1] at h
  |some b=>
   cases h2:ZCT f l with
   |none=> simp[h1,h2] at h
   |some bs=>
    simp[h1,h2] at h
    subst h
    rcases List.mem_cons.1 hx with rfl|hm
    ·exact⟨b,List.mem_cons_self,h1⟩
    ·obtain⟨y,hy,hf⟩:=zjq h2 x hm
     exact⟨y,List.mem_cons_of_mem _ hy,hf⟩
def ZGd (pan:Bool) (x:Value) (e:Ending):Prop:=e=if pan then .panicked [{v:=x,recovered:=false}] else .returned x
def ZDt (P:Program) (f:FuncId) (args:List V) (h:H) (outs:List (R×H)):Prop:=
 ∀(g:G) (xs:Array Value) (w:World),h.wf→WR g h.get h.n w→vrl g.I (g.at h.get h.n) args xs.toList→
  CallsIn Fence.wide 0 P f xs w fun e w'=> ∃x,∃r∈outs,ZGd r.1.isPan x e∧∃g',r.2.wf∧WR g' r.2.get r.2.n w'∧Ext g h.get h.n w g' r.2.get r.2.n w'∧vr g'.I (g'.at r.2.get r.2.n) r.1.v x
def ZHO (P:Program) (known:Known):Prop:=
 ∀(f:FuncId) (args:List V) (v:V),known.call f args=some v→ZDt P f args H.empty [(.ret v,H.empty)]∧v.pure=true
theorem WR.none {g:G} {get get0:Nat→Blk} {n:Nat} {w:World} (h:WR g get n w):WR g get0 0 w where
 imm:=h.imm
 blk r hr:=by omega
 inj r r' hr:=by omega
theorem zkI {hint:Hint} {known:Known} {E:Ev} (hK:ZHO P known) (hE:∀f args outs,E.call f args H.empty=some outs→ZDt P f args H.empty outs)
 {f:FuncId} {args:List V} {nid:Nat} {es:List Eff} (hc:ZC3 hint known E f args nid=some es) (hp:V.pures args=true)
 {g:G} {get:Nat→Blk} {n:Nat} {w:World} (hW:WR g get n w) {xs:Array Value} (hx:vrl g.I (g.at get n) args xs.toList) (hf:∀e∈es,ZDV get n nid e.nw.length):
 CallsIn Fence.wide 0 P f xs w fun en w'=> ∃x,∃e∈es,ZGd e.pan x en∧ZDH g get n w nid e x w':=by
 have hx0:vrl g.I (g.at H.empty.get H.empty.n) args xs.toList:=QJ (Imm.le_refl _) (At.bot_le _) (za3 hp hx)
 have hW0:WR g H.empty.get H.empty.n w:=hW.none
 unfold ZC3 at hc
 split at hc
 ·rename_i v hk
  obtain rfl:=Option.some.inj hc
  obtain⟨k1,k2⟩:=hK f args v hk
  refine(k1 g xs w H.wf_empty hW0 hx0).mono ?_
  rintro en w' ⟨x,r,hr,hen,g',q1,q2,q3,q4⟩
  obtain rfl:=List.mem_singleton.1 hr
  refine⟨x,_,List.mem_singleton.2 rfl,hen,?_⟩
  obtain⟨d1,d2⟩:=zyS hW q2 q3 (fun _ _=> True)
  exact⟨_,d1,d2,Qv (zb2 _) (At.bot_le _) (zku k2 q4)⟩
 ·split at hc
  ·rename_i outs ho
   split at hc
   ·rename_i es0 ha
    obtain rfl:=Option.some.inj hc
    refine(hE f args outs ho g xs w H.wf_empty hW0 hx0).mono ?_
    rintro en w' ⟨x,r,hr,hen,g',q1,q2,q3,q4⟩
    obtain⟨e,he,hl⟩:=zjq ha r hr
    obtain⟨l1,l2⟩:=zWA hW q2 q3 q4 hl (hf e (zN7 he))
    exact⟨x,e,zN7 he,by rw[l2];exact hen,l1⟩
   ·cases hc
  ·cases hc
end
section
variable {P:Program}
def ZDj (P:Program) (f:FuncId):Prop:=∃fn,P.funcs[f]?=some fn∧(fn.name== "runtime.NumGoroutine")=false∧fn.body.isNone=false
theorem zwq {f:FuncId} (hb:ZDj P f) (args:Array Value) (w:World):(callFunc f args).run P w=.ok (.enter f args) w:=by
 obtain⟨fn,h1,h2,h3⟩:=hb
 unfold callFunc
 simp only[Sem.run_bind,program,Sem.run,h1,Result.andThen,h2,h3]
 rfl
theorem zYN {t:TypeId} {name:String} {f:FuncId} (h:methodOf P t name=some f) (v:Value) (w:World):(method (P.types.size+Made.depth) t v name).run P w=.ok (f,v) w:=by
 have hd:P.types.size+Made.depth=(P.types.size+(Made.depth - 1))+1:=by
  have:0 < Made.depth:=by decide
  omega
 unfold methodOf at h
 cases hi:P.info? t with
 |none=> simp[hi] at h
 |some i=>
  simp only[hi,Option.bind_some] at h
  cases hm:i.methods.toList.find? (·.name==name) with
  |none=> simp[hm] at h
  |some m=>
   simp only[hm] at h
   split at h
   ·rename_i f' el hp hfn hund
    obtain rfl:=Option.some.inj h
    have hm':i.methods.find? (·.name==name)=some m:=by
     rw[←Array.find?_toList];exact hm
    have hu:P.underlying t=some (.pointer el):=by
     unfold und at hund
     cases hq:P.underlying t with
     |none=> rw[hq] at hund;cases hund
     |some d=> rw[hq] at hund;exact congrArg some hund
    rw[hd]
    unfold method
    simp only[Sem.run_bind,typeInfo,program,Sem.run,hi,Result.andThen,Sem.run_pure,hm',hp,follow,hfn]
    unfold receiverAt underlying
    simp only[Sem.run_bind,program,Sem.run,hu,Result.andThen,Sem.run_pure,Place.get]
   ·cases h
section
variable {I:Imm} {A:At} {regs:T V} {a:Act} {w:World}
theorem zyd {c:Call} (hR:RR I A regs a.tmps) {args:List V} (h:rds regs c.args.toList=some args):vrl I A args (c.args.map a.eval).toList:=by
 rw[Array.toList_map];exact zCS hR h
theorem zOv {o:Oper} {c:Call} {y:Operand} (ho:o.op=.call c) (hc:c.callee=.value y) {f:Fn} {first cap:Array Value} (hy:a.eval y=.func f first cap):
 (execOp a.eval o).run P w=(invoke (.fn f cap) (first++c.args.map a.eval)).run P w:=by
 unfold execOp
 rw[ho]
 simp only[Sem.run_bind]
 unfold resolve
 rw[hc]
 simp only[hy,Deferred.ofValue]
 rfl
theorem zYJ {o:Oper} {c:Call} {y:Operand} {name:String} (ho:o.op=.call c) (hc:c.callee=.invoke y name) {t:TypeId} {x:Value} (hy:a.eval y=.iface t x) {f:FuncId} (hm:methodOf P t name=some f):
 (execOp a.eval o).run P w=(callFunc f (#[x]++c.args.map a.eval)).run P w:=by
 unfold execOp
 rw[ho]
 simp only[Sem.run_bind]
 unfold resolve
 rw[hc]
 simp only[hy]
 show(invoke (.fn (.method name) #[]) (#[Value.iface t x]++c.args.map a.eval)).run P w=_
 unfold invoke
 have h0:(#[Value.iface t x]++c.args.map a.eval)[0]?=some (.iface t x):=by rw[←Array.getElem?_toList,Array.toList_append];rfl
 have h1:(#[Value.iface t x]++c.args.map a.eval).extract 1 (#[Value.iface t x]++c.args.map a.eval).size=c.args.map a.eval:=by
  apply Array.toList_inj.1
  simp[List.take_of_length_le]
 simp only[h0,h1]
 unfold callMethod
 simp only[Sem.run_bind,program,Sem.run,Result.andThen]
 have:=zYN hm x w
 rw[this]
theorem zwI {o:Oper} {c:Call} (ho:o.op=.call c) (hR:RR I A regs a.tmps) {f:FuncId} {args:List V} (hc:(ZDu P c).run regs=some (.func f args)) (hb:ZDj P f):
 ∃xs,(execOp a.eval o).run P w=.ok (.enter f xs) w∧vrl I A args xs.toList:=by
 unfold ZDu at hc
 cases hk:c.callee with
 |builtin b=> rw[hk] at hc;cases hc
 |value y=>
  rw[hk] at hc
  simp only at hc
  split at hc
  ·rename_i g first cap args' hg ha
   obtain⟨rfl,rfl⟩:=Callee1.func.inj (Option.some.inj hc)
   have hv:=zQ hR hg
   simp only[vr] at hv
   obtain⟨f',a',c',e,h1,h2,h3⟩:=hv
   obtain rfl:f'=.func g:=h1
   refine⟨a'++c.args.map a.eval++c',?_,?_⟩
   ·rw[zOv ho hk e]
    exact zwq hb _ _
   ·rw[Array.toList_append,Array.toList_append]
    exact QW (QW h2 (zyd hR ha)) h3
  ·cases hc
  ·cases hc
 |invoke y name=>
  rw[hk] at hc
  simp only at hc
  split at hc
  ·rename_i t v args' hg ha
   split at hc
   ·rename_i f' hm
    obtain⟨rfl,rfl⟩:=Callee1.func.inj (Option.some.inj hc)
    have hv:=zQ hR hg
    simp only[vr] at hv
    obtain⟨x,e,h1⟩:=hv
    refine⟨#[x]++c.args.map a.eval,?_,?_⟩
    ·rw[zYJ ho hk e hm]
     exact zwq hb _ _
    ·rw[Array.toList_append]
     rw[vrl]
     exact⟨x,(c.args.map a.eval).toList,rfl,h1,zyd hR ha⟩
   ·cases hc
  ·cases hc
theorem zPP {o:Oper} {c:Call} (ho:o.op=.call c) (hR:RR I A regs a.tmps) {l:Nat} {args:List V} (hc:(ZDu P c).run regs=some (.round l args)):
 ∃b xs,A.yld l b∧(execOp a.eval o).run P w=(Instr.yield b xs).run P w∧vrl I A args xs.toList:=by
 unfold ZDu at hc
 cases hk:c.callee with
 |builtin b=> rw[hk] at hc;cases hc
 |value y=>
  rw[hk] at hc
  simp only at hc
  split at hc
  ·cases hc
  ·rename_i l' args' hg ha
   obtain⟨rfl,rfl⟩:=Callee1.round.inj (Option.some.inj hc)
   have hv:=zQ hR hg
   simp only[vr] at hv
   obtain⟨f',a',c',e,h1,h2,h3⟩:=hv
   cases f' with
   |yield b=>
    simp only[vrl] at h2
    obtain rfl:=Array.toList_eq_nil_iff.1 h2
    refine⟨b,#[]++c.args.map a.eval,h1,zOv ho hk e,?_⟩
    rw[Array.toList_append]
    exact zyd hR ha
   |_=> exact h1.elim
  ·cases hc
 |invoke y name=>
  rw[hk] at hc
  simp only at hc
  split at hc
  ·split at hc
   ·cases hc
   ·cases hc
  ·cases hc
end
end
end
end Go.Ae
end
