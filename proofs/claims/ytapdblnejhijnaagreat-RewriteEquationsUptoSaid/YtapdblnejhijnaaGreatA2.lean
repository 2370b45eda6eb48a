/- The abstract evaluator: values, worlds, operations. -/
import Derived.Test.YtapdblnejhijnaaGreatA1
import Derived.Laws.StructEq
set_option linter.all false
noncomputable section
namespace Go.Ae
section
section
structure G where
 I:Imm
 mu:Nat→Nat
 base:Nat→Nat
 ts:Nat→Nat
def Blk.firm:Blk→Bool
 |.tok _|.resv=> false
 |_=> true
def Blk.live:Blk→Bool
 |.gone|.resv=> false
 |_=> true
def G.at (g:G) (get:Nat→Blk) (n:Nat):At where
 ptr r off a:=r < n∧(get r).firm=true∧a=⟨g.mu r,g.base r+off,none⟩
 hs r off len cap sz ex a c:=r < n∧(get r).firm=true∧a=⟨g.mu r,g.base r+off,none⟩∧len≤cap∧cap≤c∧(ex=true→c=cap)∧g.base r+off+c * sz≤g.ts r
 map r b:=r < n∧(get r).firm=true∧b=g.mu r
 yld r l:=r < n∧(get r).firm=true∧l=g.mu r
 tok r e b k c:=r < n∧get r≠.resv∧∀hw,get r=.tok hw→e≤hw∧(e=hw→b=g.mu r∧k=g.base r∧c≤g.ts r)
structure RR (I:Imm) (A:At) (regs:T V) (tmps:Array Value):Prop where
 full:regs.full tmps.size
 val:∀t,vr I A (regs.get ZmM t) (tmps.getD t undef)
theorem RR.mono {I J:Imm} (hI:I.le J) {A A':At} (hA:A.le A') {regs:T V} {tmps:Array Value} (h:RR I A regs tmps):RR J A' regs tmps:=⟨h.full,fun t=> Qv hI hA (h.val t)⟩
theorem RR.set {I:Imm} {A:At} {regs:T V} {tmps:Array Value} (h:RR I A regs tmps) (t:Nat) {v:V} {x:Value} (hv:vr I A v x):RR I A (regs.set t v) (tmps.setIfInBounds t x):=by
 refine⟨by rw[Array.size_setIfInBounds];exact T.full_set h.full t v,fun j=> ?_⟩
 rw[T.get_set_full _ h.full]
 by_cases hj:j=t∧t < tmps.size
 ·obtain⟨rfl,hlt⟩:=hj
  rw[if_pos ⟨rfl,hlt⟩]
  simpa[Array.getD,hlt] using hv
 ·rw[if_neg hj]
  have:=h.val j
  by_cases hjt:j=t
  ·subst hjt
   have hge:¬j < tmps.size:=fun hh=> hj ⟨rfl,hh⟩
   simpa[Array.getD,hge] using this
  ·have:(tmps.setIfInBounds t x).getD j undef=tmps.getD j undef:=by
    simp[Array.getD_eq_getD_getElem?,Array.getElem?_setIfInBounds_ne (Ne.symm hjt)]
   rw[this];exact h.val j
def ZCZ (I:Imm) (A:At):List (V×V)→List MapEntry→Prop
 |[],es=> es=[]
 |(k,v)::l,es=> ∃e es',es=e::es'∧vr I A k e.key∧vr I A v e.val∧ZCZ I A l es'
theorem zwM {I J:Imm} (hI:I.le J) {A A':At} (hA:A.le A'):∀{l:List (V×V)} {es:List MapEntry},ZCZ I A l es→ZCZ J A' l es
 |[],_,h=> h
 |(_,_)::_,_,⟨e,es',h,h1,h2,h3⟩=> ⟨e,es',h,Qv hI hA h1,Qv hI hA h2,zwM hI hA h3⟩
def ZEL (I:Imm) (A:At) (l:List (V×V)) (es:List MapEntry):Prop:=∃l',l'.Perm l∧ZCZ I A l' es
theorem zkK {I J:Imm} (hI:I.le J) {A A':At} (hA:A.le A') {l:List (V×V)} {es:List MapEntry}:ZEL I A l es→ZEL J A' l es
 |⟨l',h,h1⟩=> ⟨l',h,zwM hI hA h1⟩
def ZEK (g:G) (get:Nat→Blk) (n:Nat) (w:World) (r:Nat):Blk→Prop
 |.row k cs=> ∃c e,w.heap[g.mu r]?=some (.cells c e (0,0))∧c.size=g.ts r∧g.base r+cs.length≤c.size∧
  (∀(i:Nat) (v:V),cs[i]?=some v→∃x,c[g.base r+i]?=some x∧vr g.I (g.at get n) v x)∧∀o,g.base r+k≤o→g.I (g.mu r) o=none
 |.tok _=> ∃c e,w.heap[g.mu r]?=some (.cells c e (0,0))∧c.size=g.ts r∧g.base r≤c.size∧∀o,g.base r≤o→g.I (g.mu r) o=none
 |.map es _=> ∃ents clock,w.heap[g.mu r]?=some (.map ents clock)∧ZEL g.I (g.at get n) es ents.toList∧(ents.toList.map (·.born)).Nodup∧∀e∈ents.toList,e.born < clock
 |.iter none _ _ _=> g.base r=0∧w.heap[g.mu r]?=some (.mapIter none 0 #[] 0)
 |.iter (some m) ver left cur=> m < n∧(get m).firm=true∧g.base r=0∧∃since seen last,w.heap[g.mu r]?=some (.mapIter (some (g.mu m)) since seen last)∧
  (∀es ver',get m=.map es ver'→ver≤ver')∧∀es,get m=.map es ver→∃ents,w.heap[g.mu m]?=some (.map ents since)∧last=since∧
   ZEL g.I (g.at get n) left (ents.toList.filter fun e=> !seen.contains e.born)∧
   ∀k v,cur=some (k,v)→∃stamp e,seen.back?=some stamp∧ents.find? (·.born==stamp)=some e∧vr g.I (g.at get n) k e.key∧vr g.I (g.at get n) v e.val
 |.loop _ regs params assign body pend st d=> ∃L:Loop,w.heap[g.mu r]?=some (.loop L)∧L.state=st∧L.pending=pend∧L.params.toList=params∧L.assign=assign∧L.body=body∧
  RR g.I (g.at get n) regs L.tmps∧d < n∧(get d).firm=true∧L.defers=g.mu d
 |.dfr=> w.heap[g.mu r]?=some (.deferred (some []))
 |.gone|.resv=> True
structure WR (g:G) (get:Nat→Blk) (n:Nat) (w:World):Prop where
 imm:∀b o x,g.I b o=some x→w.cell? ⟨b,o,none⟩=some x
 blk:∀r,r < n→ZEK g get n w r (get r)
 inj:∀r r',r < n→r' < n→(get r).live=true→(get r').live=true→g.mu r=g.mu r'→r=r'
def G.img (g:G) (get:Nat→Blk) (n:Nat) (b:Nat):Prop:=∃r,r < n∧(get r).live=true∧g.mu r=b
structure Ext (g:G) (get:Nat→Blk) (n:Nat) (w:World) (g':G) (get':Nat→Blk) (n':Nat) (w':World):Prop where
 n_le:n≤n'
 I_le:g.I.le g'.I
 I_new:∀b o x,g'.I b o=some x→g.I b o=some x∨w.heap.size≤b∨g.img get n b
 size:w.heap.size≤w'.heap.size
 frame:∀b,b < w.heap.size→¬g.img get n b→w'.heap[b]?=w.heap[b]?
 back:∀b,b < w.heap.size→g'.img get' n' b→g.img get n b
 ids:∀r,r < n→(get r).firm=true→(get' r).firm=true∧g'.mu r=g.mu r∧g'.base r=g.base r∧g'.ts r=g.ts r
 kept:∀r,r < n→get r≠.resv→get' r≠.resv
 toks:∀r,r < n→∀hw hw',get r=.tok hw→get' r=.tok hw'→hw≤hw'∧(hw=hw'→g'.mu r=g.mu r∧g'.base r=g.base r∧g'.ts r=g.ts r)
 maps:∀r,r < n→∀es ver,get r=.map es ver→∃es' ver',get' r=.map es' ver'∧(ver < ver'∨(ver'=ver∧es'=es∧w'.heap[g.mu r]?=w.heap[g.mu r]?))
 tape:w'.tape=w.tape
 os:w'.os=w.os
 output:w'.output=w.output
theorem Ext.at_le {g g':G} {get get':Nat→Blk} {n n':Nat} {w w':World} (h:Ext g get n w g' get' n' w'):(g.at get n).le (g'.at get' n') where
 ptr r o a:=by
  rintro⟨h1,h2,rfl⟩
  obtain⟨i1,i2,i3,_⟩:=h.ids r h1 h2
  exact⟨Nat.lt_of_lt_of_le h1 h.n_le,i1,by rw[i2,i3]⟩
 hs r o l c s e a n:=by
  rintro⟨h1,h2,rfl,h3,h4,h5,h6⟩
  obtain⟨i1,i2,i3,i4⟩:=h.ids r h1 h2
  exact⟨Nat.lt_of_lt_of_le h1 h.n_le,i1,by rw[i2,i3],h3,h4,h5,by rw[i3,i4];exact h6⟩
 map r b:=by
  rintro⟨h1,h2,rfl⟩
  obtain⟨i1,i2,_⟩:=h.ids r h1 h2
  exact⟨Nat.lt_of_lt_of_le h1 h.n_le,i1,i2.symm⟩
 yld r b:=by
  rintro⟨h1,h2,rfl⟩
  obtain⟨i1,i2,_⟩:=h.ids r h1 h2
  exact⟨Nat.lt_of_lt_of_le h1 h.n_le,i1,i2.symm⟩
 tok r e b k c:=by
  rintro⟨h1,h0,h2⟩
  refine⟨Nat.lt_of_lt_of_le h1 h.n_le,h.kept r h1 h0,fun hw' hg'=> ?_⟩
  cases hg:get r with
  |tok hw=>
   obtain⟨t1,t2⟩:=h.toks r h1 hw hw' hg hg'
   obtain⟨e1,e2⟩:=h2 hw hg
   refine⟨Nat.le_trans e1 t1,fun e=> ?_⟩
   have hww:hw=hw':=by omega
   obtain⟨m1,m2,m3⟩:=t2 hww
   obtain⟨f1,f2,f3⟩:=e2 (by omega)
   exact⟨by rw[m1];exact f1,by rw[m2];exact f2,by rw[m3];exact f3⟩
  |resv=> exact absurd hg h0
  |_=>
   have:=(h.ids r h1 (by rw[hg];rfl)).1
   rw[hg'] at this;cases this
theorem Ext.vr {g g':G} {get get':Nat→Blk} {n n':Nat} {w w':World} (h:Ext g get n w g' get' n' w') {v:V} {x:Value} (hv:vr g.I (g.at get n) v x):vr g'.I (g'.at get' n') v x:=Qv h.I_le h.at_le hv
theorem Ext.vrl {g g':G} {get get':Nat→Blk} {n n':Nat} {w w':World} (h:Ext g get n w g' get' n' w') {v:List V} {x:List Value} (hv:vrl g.I (g.at get n) v x):Ae.vrl g'.I (g'.at get' n') v x:=QJ h.I_le h.at_le hv
theorem Ext.rr {g g':G} {get get':Nat→Blk} {n n':Nat} {w w':World} (h:Ext g get n w g' get' n' w') {regs:T V} {tmps:Array Value} (hv:RR g.I (g.at get n) regs tmps):RR g'.I (g'.at get' n') regs tmps:=hv.mono h.I_le h.at_le
theorem Ext.refl (g:G) (get:Nat→Blk) (n:Nat) (w:World):Ext g get n w g get n w where
 n_le:=Nat.le_refl _
 I_le:=Imm.le_refl _
 I_new _ _ _ h:=.inl h
 size:=Nat.le_refl _
 frame _ _ _:=rfl
 back _ _ h:=h
 ids _ _ h:=⟨h,rfl,rfl,rfl⟩
 kept _ _ h:=h
 toks _ _ hw hw' e e':=by rw[e] at e';cases e';exact⟨Nat.le_refl _,fun _=> ⟨rfl,rfl,rfl⟩⟩
 maps _ _ es ver e:=⟨es,ver,e,.inr ⟨rfl,rfl,rfl⟩⟩
 tape:=rfl
 os:=rfl
 output:=rfl
theorem Ext.trans {g g1 g2:G} {get get1 get2:Nat→Blk} {n n1 n2:Nat} {w w1 w2:World} (h:Ext g get n w g1 get1 n1 w1) (h':Ext g1 get1 n1 w1 g2 get2 n2 w2):Ext g get n w g2 get2 n2 w2 where
 n_le:=Nat.le_trans h.n_le h'.n_le
 I_le:=Imm.le_trans h.I_le h'.I_le
 I_new b o x hx:=by
  rcases h'.I_new b o x hx with h1|h1|h1
  ·exact h.I_new b o x h1
  ·exact .inr (.inl (Nat.le_trans h.size h1))
  ·by_cases hb:b < w.heap.size
   ·exact .inr (.inr (h.back b hb h1))
   ·exact .inr (.inl (by omega))
 size:=Nat.le_trans h.size h'.size
 frame b hb hn:=by
  rw[h'.frame b (Nat.lt_of_lt_of_le hb h.size) (fun hi=> hn (h.back b hb hi)),h.frame b hb hn]
 back b hb hi:=h.back b hb (h'.back b (Nat.lt_of_lt_of_le hb h.size) hi)
 ids r hr ht:=by
  obtain⟨a1,a2,a3,a4⟩:=h.ids r hr ht
  obtain⟨b1,b2,b3,b4⟩:=h'.ids r (Nat.lt_of_lt_of_le hr h.n_le) a1
  exact⟨b1,b2.trans a2,b3.trans a3,b4.trans a4⟩
 kept r hr hn:=h'.kept r (Nat.lt_of_lt_of_le hr h.n_le) (h.kept r hr hn)
 toks r hr hw hw'' e e'':=by
  cases hg:get1 r with
  |resv=> exact absurd hg (h.kept r hr (by rw[e];simp))
  |tok hw'=>
   obtain⟨a1,a2⟩:=h.toks r hr hw hw' e hg
   obtain⟨b1,b2⟩:=h'.toks r (Nat.lt_of_lt_of_le hr h.n_le) hw' hw'' hg e''
   refine⟨Nat.le_trans a1 b1,fun he=> ?_⟩
   obtain⟨c1,c2,c3⟩:=a2 (by omega)
   obtain⟨d1,d2,d3⟩:=b2 (by omega)
   exact⟨d1.trans c1,d2.trans c2,d3.trans c3⟩
  |_=>
   have:=(h'.ids r (Nat.lt_of_lt_of_le hr h.n_le) (by rw[hg];rfl)).1
   rw[e''] at this;cases this
 maps r hr es ver e:=by
  obtain⟨es1,ver1,e1,h1⟩:=h.maps r hr es ver e
  obtain⟨es2,ver2,e2,h2⟩:=h'.maps r (Nat.lt_of_lt_of_le hr h.n_le) es1 ver1 e1
  refine⟨es2,ver2,e2,?_⟩
  rcases h1 with h1|⟨rfl,rfl,h1⟩
  ·rcases h2 with h2|⟨rfl,rfl,h2⟩
   ·exact .inl (by omega)
   ·exact .inl h1
  ·rcases h2 with h2|⟨rfl,rfl,h2⟩
   ·exact .inl h2
   ·refine .inr ⟨rfl,rfl,?_⟩
    have hm:=(h.ids r hr (by rw[e];rfl)).2.1
    rw[hm] at h2
    rw[h2,h1]
 tape:=h'.tape.trans h.tape
 os:=h'.os.trans h.os
 output:=h'.output.trans h.output
theorem zPB {g g':G} {get get':Nat→Blk} {n n':Nat} {w w':World} (e:Ext g get n w g' get' n' w') {r:Nat} {b:Blk}
 (hmu:g'.mu r=g.mu r) (hbase:g'.base r=g.base r) (hts:g'.ts r=g.ts r) (hheap:b.live=true→w'.heap[g.mu r]?=w.heap[g.mu r]?)
 (hI:b.live=true→∀o x,g'.I (g.mu r) o=some x→g.I (g.mu r) o=some x)
 (hiter:∀m ver left cur,b=.iter (some m) ver left cur→(∀es ver',get' m=.map es ver'→get m=.map es ver'∨ver < ver')∧(∀es,get' m=.map es ver→w'.heap[g.mu m]?=w.heap[g.mu m]?))
 (h:ZEK g get n w r b):ZEK g' get' n' w' r b:=by
 cases b with
 |row k cs=>
  obtain⟨c,el,h1,h2,h3,h4,h5⟩:=h
  refine⟨c,el,by rw[hmu,hheap rfl];exact h1,by rw[hts];exact h2,by rw[hbase];exact h3,fun i v hv=> ?_,fun o ho=> ?_⟩
  ·obtain⟨x,hx,hvr⟩:=h4 i v hv
   exact⟨x,by rw[hbase];exact hx,e.vr hvr⟩
  ·rw[hbase] at ho
   rw[hmu]
   cases hh:g'.I (g.mu r) o with
   |none=> rfl
   |some x=> have:=hI rfl o x hh;rw[h5 o ho] at this;cases this
 |tok hw=>
  obtain⟨c,el,h1,h2,h3,h5⟩:=h
  refine⟨c,el,by rw[hmu,hheap rfl];exact h1,by rw[hts];exact h2,by rw[hbase];exact h3,fun o ho=> ?_⟩
  rw[hbase] at ho
  rw[hmu]
  cases hh:g'.I (g.mu r) o with
  |none=> rfl
  |some x=> have:=hI rfl o x hh;rw[h5 o ho] at this;cases this
 |map es ver=>
  obtain⟨ents,clock,h1,h2,h3⟩:=h
  exact⟨ents,clock,by rw[hmu,hheap rfl];exact h1,zkK e.I_le e.at_le h2,h3⟩
 |iter m ver left cur=>
  cases m with
  |none=>
   obtain⟨h1,h2⟩:=h
   exact⟨by rw[hbase];exact h1,by rw[hmu,hheap rfl];exact h2⟩
  |some m=>
   obtain⟨h1,h2,h3,since,seen,last,h4,h5,h6⟩:=h
   obtain⟨i1,i2⟩:=hiter m ver left cur rfl
   obtain⟨j1,j2,_,_⟩:=e.ids m h1 h2
   refine⟨Nat.lt_of_lt_of_le h1 e.n_le,j1,by rw[hbase];exact h3,since,seen,last,by rw[hmu,hheap rfl,j2];exact h4,fun es ver' hg=> ?_,fun es hg=> ?_⟩
   ·rcases i1 es ver' hg with hh|hh
    ·exact h5 es ver' hh
    ·omega
   ·rcases i1 es ver hg with hh|hh
    ·obtain⟨ents,k1,k2,k3,k4⟩:=h6 es hh
     refine⟨ents,by rw[j2,i2 es hg];exact k1,k2,zkK e.I_le e.at_le k3,fun k v hc=> ?_⟩
     obtain⟨stamp,en,q1,q2,q3,q4⟩:=k4 k v hc
     exact⟨stamp,en,q1,q2,e.vr q3,e.vr q4⟩
    ·omega
 |loop fn regs params assign body pend st d=>
  obtain⟨L,h1,h2,h3,h5,h6,h7,h8,h9,h10,h11⟩:=h
  obtain⟨j1,j2,_,_⟩:=e.ids d h9 h10
  exact⟨L,by rw[hmu,hheap rfl];exact h1,h2,h3,h5,h6,h7,e.rr h8,Nat.lt_of_lt_of_le h9 e.n_le,j1,by rw[j2];exact h11⟩
 |dfr=> exact(by rw[hmu,hheap rfl];exact h:w'.heap[g'.mu r]?=some (.deferred (some [])))
 |gone=> trivial
 |resv=> trivial
theorem WR.step {g g':G} {get get':Nat→Blk} {n n':Nat} {w w':World} (C:Nat→Prop) (h:WR g get n w) (e:Ext g get n w g' get' n' w')
 (himm:∀b o x,g'.I b o=some x→w'.cell? ⟨b,o,none⟩=some x)
 (same:∀r,r < n→¬C r→get' r=get r∧g'.mu r=g.mu r∧g'.base r=g.base r∧g'.ts r=g.ts r∧
  ((get r).live=true→w'.heap[g.mu r]?=w.heap[g.mu r]?∧∀o x,g'.I (g.mu r) o=some x→g.I (g.mu r) o=some x))
 (new:∀r,r < n'→(C r∨n≤r)→ZEK g' get' n' w' r (get' r))
 (inj:∀r r',r < n'→r' < n'→(C r∨n≤r)→(get' r).live=true→(get' r').live=true→g'.mu r=g'.mu r'→r=r')
 (iter:∀r m ver left cur,r < n→¬C r→get r=.iter (some m) ver left cur→C m→∀es ver',get' m=.map es ver'→ver < ver'):WR g' get' n' w' where
 imm:=himm
 blk r hr:=by
  by_cases hc:C r∨n≤r
  ·exact new r hr hc
  ·have hlt:r < n:=by
    rcases Nat.lt_or_ge r n with hh|hh
    ·exact hh
    ·exact absurd (.inr hh) hc
   have hnc:¬C r:=fun hh=> hc (.inl hh)
   obtain⟨s1,s2,s3,s4,s5⟩:=same r hlt hnc
   rw[s1]
   have hbl:=h.blk r hlt
   refine zPB e s2 s3 s4 (fun hl=> (s5 hl).1) (fun hl=> (s5 hl).2) (fun m ver left cur hb=> ?_) hbl
   rw[hb] at hbl
   have hm:m < n:=hbl.1
   by_cases hcm:C m
   ·have:=iter r m ver left cur hlt hnc hb hcm
    exact⟨fun es ver' hg=> .inr (this es ver' hg),fun es hg=> absurd (this es ver hg) (by omega)⟩
   ·obtain⟨t1,_,_,_,t5⟩:=same m hm hcm
    refine⟨fun es ver' hg=> .inl (by rw[←t1];exact hg),fun es hg=> (t5 ?_).1⟩
    rw[←t1,hg];rfl
 inj r r' hr hr' hl hl' hmu:=by
  by_cases hc:C r∨n≤r
  ·exact inj r r' hr hr' hc hl hl' hmu
  ·by_cases hc':C r'∨n≤r'
   ·exact(inj r' r hr' hr hc' hl' hl hmu.symm).symm
   ·have hlt:r < n:=by
     rcases Nat.lt_or_ge r n with hh|hh
     ·exact hh
     ·exact absurd (.inr hh) hc
    have hlt':r' < n:=by
     rcases Nat.lt_or_ge r' n with hh|hh
     ·exact hh
     ·exact absurd (.inr hh) hc'
    obtain⟨s1,s2,_⟩:=same r hlt (fun hh=> hc (.inl hh))
    obtain⟨t1,t2,_⟩:=same r' hlt' (fun hh=> hc' (.inl hh))
    rw[s1] at hl;rw[t1] at hl';rw[s2,t2] at hmu
    exact h.inj r r' hlt hlt' hl hl' hmu
theorem WR.drew {g:G} {get:Nat→Blk} {n:Nat} {w:World} (h:WR g get n w) (k:Nat):WR g get n {w with drawn:=k}:=
 ⟨h.imm,h.blk,h.inj⟩
theorem Ext.drew (g:G) (get:Nat→Blk) (n:Nat) (w:World) (k:Nat):Ext g get n w g get n {w with drawn:=k} where
 n_le:=Nat.le_refl _
 I_le:=Imm.le_refl _
 I_new _ _ _ h:=.inl h
 size:=Nat.le_refl _
 frame _ _ _:=rfl
 back _ _ h:=h
 ids _ _ h:=⟨h,rfl,rfl,rfl⟩
 kept _ _ h:=h
 toks _ _ hw hw' e e':=by rw[e] at e';cases e';exact⟨Nat.le_refl _,fun _=> ⟨rfl,rfl,rfl⟩⟩
 maps _ _ es ver e:=⟨es,ver,e,.inr ⟨rfl,rfl,rfl⟩⟩
 tape:=rfl
 os:=rfl
 output:=rfl
end
section
theorem zkC (w:World) (o:Obj):w.heap.size≤(w.alloc o).heap.size:=by
 show w.heap.size≤(w.heap.push o).size
 simp
theorem zjr (w:World) (o:Obj) {b:Nat} (hb:b < w.heap.size):(w.alloc o).heap[b]?=w.heap[b]?:=by
 show(w.heap.push o)[b]?=w.heap[b]?
 simp[Array.getElem?_push,Nat.ne_of_lt hb]
theorem zaY (w:World) (o:Obj):(w.alloc o).heap[w.heap.size]?=some o:=by
 show(w.heap.push o)[w.heap.size]?=some o
 simp
theorem zyP (w:World) (c:Array Value) (el:TypeId) (i:Nat):(w.alloc (.cells c el)).cell? ⟨w.heap.size,i,none⟩=c[i]?:=by
 unfold World.cell?
 simp only[zaY]
 simp
theorem QG {w:World} {b:Nat} {o:Obj} (h:w.heap[b]?=some o):b < w.heap.size:=(Array.getElem?_eq_some_iff.1 h).1
theorem WR.lt {g:G} {get:Nat→Blk} {n:Nat} {w:World} (h:WR g get n w) {r:Nat} (hr:r < n) (hl:(get r).live=true):g.mu r < w.heap.size:=by
 have hb:=h.blk r hr
 cases hg:get r with
 |row k cs=> rw[hg] at hb;obtain⟨c,e,h1,_⟩:=hb;exact QG h1
 |tok hw=> rw[hg] at hb;obtain⟨c,e,h1,_⟩:=hb;exact QG h1
 |map es ver=> rw[hg] at hb;obtain⟨c,e,h1,_⟩:=hb;exact QG h1
 |iter m ver left cur=>
  rw[hg] at hb
  cases m with
  |none=> exact QG hb.2
  |some m=> obtain⟨_,_,_,_,_,_,h1,_⟩:=hb;exact QG h1
 |loop fn regs params assign body pend st d=> rw[hg] at hb;obtain⟨L,h1,_⟩:=hb;exact QG h1
 |dfr=> rw[hg] at hb;exact QG hb
 |gone=> rw[hg] at hl;cases hl
 |resv=> rw[hg] at hl;cases hl
theorem WR.go {g g':G} {get get':Nat→Blk} {n n':Nat} {w w':World} (C D:Nat→Prop) (h:WR g get n w) (hn:n≤n')
 (hother:∀r,r < n→¬C r→get' r=get r∧g'.mu r=g.mu r∧g'.base r=g.base r∧g'.ts r=g.ts r)
 (hnewid:∀r,n≤r→r < n'→C r) (hsize:w.heap.size≤w'.heap.size)
 (hD:∀b,b < w.heap.size→¬D b→w'.heap[b]?=w.heap[b]?)
 (hDimg:∀b,b < w.heap.size→D b→∃r,r < n∧C r∧(get r).live=true∧g.mu r=b)
 (hIle:g.I.le g'.I) (hInew:∀b o x,g'.I b o=some x→g.I b o=some x∨w.heap.size≤b∨D b)
 (himm:∀b o x,g'.I b o=some x→(w.heap.size≤b∨D b)→w'.cell? ⟨b,o,none⟩=some x)
 (hids:∀r,r < n→C r→(get r).firm=true→(get' r).firm=true∧g'.mu r=g.mu r∧g'.base r=g.base r∧g'.ts r=g.ts r)
 (hkept:∀r,r < n→C r→get r≠.resv→get' r≠.resv)
 (htoks:∀r,r < n→C r→∀hw hw',get r=.tok hw→get' r=.tok hw'→hw≤hw'∧(hw=hw'→g'.mu r=g.mu r∧g'.base r=g.base r∧g'.ts r=g.ts r))
 (hmu:∀r,r < n'→C r→(get' r).live=true→w.heap.size≤g'.mu r∨∃r0,r0 < n∧C r0∧(get r0).live=true∧g.mu r0=g'.mu r)
 (hinj:∀r r',r < n'→r' < n'→C r→C r'→(get' r).live=true→(get' r').live=true→g'.mu r=g'.mu r'→r=r')
 (hiter:∀r m ver left cur,r < n→¬C r→get r=.iter (some m) ver left cur→C m→∀es ver',get' m=.map es ver'→ver < ver')
 (htape:w'.tape=w.tape) (hos:w'.os=w.os) (hout:w'.output=w.output)
 (hblk:Ext g get n w g' get' n' w'→∀r,r < n'→C r→ZEK g' get' n' w' r (get' r))
 (hmaps:∀r,r < n→C r→∀es ver,get r=.map es ver→∃es' ver',get' r=.map es' ver'∧(ver < ver'∨(ver'=ver∧es'=es∧w'.heap[g.mu r]?=w.heap[g.mu r]?))):
 WR g' get' n' w'∧Ext g get n w g' get' n' w':=by
 have e:Ext g get n w g' get' n' w':={
  n_le:=hn
  I_le:=hIle
  I_new:=fun b o x hx=> by
   rcases hInew b o x hx with h1|h1|h1
   ·exact .inl h1
   ·exact .inr (.inl h1)
   ·by_cases hb:b < w.heap.size
    ·obtain⟨r,hr,_,hl,hm⟩:=hDimg b hb h1
     exact .inr (.inr ⟨r,hr,hl,hm⟩)
    ·exact .inr (.inl (by omega))
  size:=hsize
  frame:=fun b hb hni=> hD b hb fun hd=> by
   obtain⟨r,hr,_,hl,hm⟩:=hDimg b hb hd
   exact hni ⟨r,hr,hl,hm⟩
  back:=fun b hb hi=> by
   obtain⟨r,hr,hl,hm⟩:=hi
   by_cases hc:C r
   ·rcases hmu r hr hc hl with h1|⟨r0,h1,_,h3,h4⟩
    ·omega
    ·exact⟨r0,h1,h3,h4.trans hm⟩
   ·have hlt:r < n:=by
     rcases Nat.lt_or_ge r n with hh|hh
     ·exact hh
     ·exact absurd (hnewid r hh hr) hc
    obtain⟨s1,s2,_⟩:=hother r hlt hc
    exact⟨r,hlt,by rw[←s1];exact hl,by rw[←s2];exact hm⟩
  ids:=fun r hr hf=> by
   by_cases hc:C r
   ·exact hids r hr hc hf
   ·obtain⟨s1,s2,s3,s4⟩:=hother r hr hc
    exact⟨by rw[s1];exact hf,s2,s3,s4⟩
  kept:=fun r hr hf=> by
   by_cases hc:C r
   ·exact hkept r hr hc hf
   ·rw[(hother r hr hc).1];exact hf
  toks:=fun r hr hw hw' h1 h2=> by
   by_cases hc:C r
   ·exact htoks r hr hc hw hw' h1 h2
   ·obtain⟨s1,s2,s3,s4⟩:=hother r hr hc
    rw[s1,h1] at h2
    cases h2
    exact⟨Nat.le_refl _,fun _=> ⟨s2,s3,s4⟩⟩
  maps:=fun r hr es ver hg=> by
   by_cases hc:C r
   ·exact hmaps r hr hc es ver hg
   ·obtain⟨s1,_⟩:=hother r hr hc
    refine⟨es,ver,by rw[s1];exact hg,.inr ⟨rfl,rfl,?_⟩⟩
    have hl:(get r).live=true:=by rw[hg];rfl
    refine hD _ (h.lt hr hl) fun hd=> ?_
    obtain⟨r0,h1,h2,h3,h4⟩:=hDimg _ (h.lt hr hl) hd
    have:=h.inj r0 r h1 hr h3 hl h4
    exact hc (this ▸ h2)
  tape:=htape
  os:=hos
  output:=hout}
 refine⟨WR.step C h e ?_ ?_ ?_ ?_ hiter,e⟩
 ·intro b o x hx
  by_cases hc:w.heap.size≤b∨D b
  ·exact himm b o x hx hc
  ·have h1:g.I b o=some x:=(hInew b o x hx).resolve_right hc
   have hb:b < w.heap.size:=by
    rcases Nat.lt_or_ge b w.heap.size with hh|hh
    ·exact hh
    ·exact absurd (.inl hh) hc
   have:=h.imm b o x h1
   unfold World.cell? at this⊢
   rw[hD b hb (fun hd=> hc (.inr hd))];exact this
 ·intro r hr hc
  obtain⟨s1,s2,s3,s4⟩:=hother r hr hc
  refine⟨s1,s2,s3,s4,fun hl=> ?_⟩
  have hlt:=h.lt hr hl
  have hnd:¬D (g.mu r):=fun hd=> by
   obtain⟨r0,h1,h2,h3,h4⟩:=hDimg _ hlt hd
   have:=h.inj r0 r h1 hr h3 hl h4
   exact hc (this ▸ h2)
  refine⟨hD _ hlt hnd,fun o x hx=> ?_⟩
  rcases hInew _ o x hx with h1|h1|h1
  ·exact h1
  ·omega
  ·exact absurd h1 hnd
 ·intro r hr hc
  rcases hc with hc|hc
  ·exact hblk e r hr hc
  ·exact hblk e r hr (hnewid r hc hr)
 ·intro r r' hr hr' hc hl hl' hm
  have hcr:C r:=hc.elim id (fun hh=> hnewid r hh hr)
  by_cases hc':C r'
  ·exact hinj r r' hr hr' hcr hc' hl hl' hm
  ·have hlt:r' < n:=by
    rcases Nat.lt_or_ge r' n with hh|hh
    ·exact hh
    ·exact absurd (hnewid r' hh hr') hc'
   obtain⟨s1,s2,_⟩:=hother r' hlt hc'
   rw[s1] at hl'
   have hlt':=h.lt hlt hl'
   rw[s2] at hm
   rcases hmu r hr hcr hl with h1|⟨r0,h1,h2,h3,h4⟩
   ·omega
   ·have:=h.inj r0 r' h1 hlt h3 hl' (h4.trans hm)
    exact absurd (this ▸ h2) hc'
def upd (get:Nat→Blk) (r:Nat) (b:Blk):Nat→Blk:=fun j=> if j=r then b else get j
theorem zG (get:Nat→Blk) (r:Nat) (b:Blk):upd get r b r=b:=if_pos rfl
theorem J7 (get:Nat→Blk) {r j:Nat} (b:Blk) (h:j≠r):upd get r b j=get j:=if_neg h
def G.put (g:G) (r m b t:Nat):G where
 I:=g.I
 mu j:=if j=r then m else g.mu j
 base j:=if j=r then b else g.base j
 ts j:=if j=r then t else g.ts j
def ZDc (get:Nat→Blk) (n nid:Nat):Prop:=nid≤n∧(nid < n→get nid=.resv)
theorem WR.new {g:G} {get:Nat→Blk} {n:Nat} {w:World} (h:WR g get n w) {nid:Nat} (hf:ZDc get n nid) (o:Obj) (b:Blk) (base ts:Nat)
 (hblk:Ext g get n w (g.put nid w.heap.size base ts) (upd get nid b) (max n (nid+1)) (w.alloc o)→ZEK (g.put nid w.heap.size base ts) (upd get nid b) (max n (nid+1)) (w.alloc o) nid b):
 WR (g.put nid w.heap.size base ts) (upd get nid b) (max n (nid+1)) (w.alloc o)∧Ext g get n w (g.put nid w.heap.size base ts) (upd get nid b) (max n (nid+1)) (w.alloc o):=by
 have hres:∀r,r < n→r=nid→get r=.resv:=fun r hr e=> by subst e;exact hf.2 hr
 refine WR.go (fun r=> r=nid) (fun _=> False) h (Nat.le_max_left _ _) ?_ ?_ ?_ ?_ ?_ (Imm.le_refl _) (fun _ _ _ hx=> .inl hx) ?_ ?_ ?_ ?_ ?_ ?_ ?_ rfl rfl rfl ?_ ?_
 ·intro r _ hc;exact⟨J7 _ _ hc,if_neg hc,if_neg hc,if_neg hc⟩
 ·intro r h1 h2;have:=hf.1;omega
 ·exact zkC _ _
 ·intro b hb _;exact zjr _ _ hb
 ·intro _ _ hd;exact hd.elim
 ·intro b o x hx hc
  rcases hc with hc|hc
  ·have:=h.imm b o x hx
   unfold World.cell? at this
   rw[Array.getElem?_eq_none hc] at this
   cases this
  ·exact hc.elim
 ·intro r hr hc hfm;rw[hres r hr hc] at hfm;cases hfm
 ·intro r hr hc hk;exact absurd (hres r hr hc) hk
 ·intro r hr hc hw hw' e;rw[hres r hr hc] at e;cases e
 ·intro r _ hc _;subst hc;exact .inl (by simp[G.put])
 ·intro r r' _ _ hc hc' _ _ _;rw[hc,hc']
 ·intro r m ver left cur hr hc hg hcm es ver' _
  have hbl:=h.blk r hr
  rw[hg] at hbl
  obtain⟨m1,m2,_⟩:=hbl
  rw[hres m m1 hcm] at m2;cases m2
 ·intro e r _ hc;subst hc;rw[zG];exact hblk e
 ·intro r hr hc es ver e;rw[hres r hr hc] at e;cases e
def ZC0 (I:Imm) (b lo:Nat) (xs:List Value):Imm:=fun b' o=> if b'=b∧lo≤o∧o < lo+xs.length then xs[o - lo]? else I b' o
theorem zkR {I:Imm} {b lo:Nat} {xs:List Value} {i:Nat} {x:Value} (h:xs[i]?=some x):ZC0 I b lo xs b (lo+i)=some x:=by
 have hi:i < xs.length:=(List.getElem?_eq_some_iff.1 h).1
 unfold ZC0
 rw[if_pos ⟨rfl,by omega,by omega⟩,show lo+i - lo=i by omega];exact h
theorem zkS {I:Imm} {b lo:Nat} {xs:List Value} (h:∀o x,I b o=some x→lo≤o→o < lo+xs.length→xs[o - lo]?=some x):I.le (ZC0 I b lo xs):=by
 intro b' o x hx
 unfold ZC0
 split
 ·rename_i hc;obtain⟨rfl,h1,h2⟩:=hc;exact h o x hx h1 h2
 ·exact hx
theorem zaZ {I:Imm} {b lo:Nat} {xs:List Value} {b' o:Nat} {x:Value} (h:ZC0 I b lo xs b' o=some x):I b' o=some x∨(b'=b∧∃i,o=lo+i∧xs[i]?=some x):=by
 unfold ZC0 at h
 split at h
 ·rename_i hc;exact .inr ⟨hc.1,o - lo,by omega,h⟩
 ·exact .inl h
theorem WR.imm_alloc {g:G} {get:Nat→Blk} {n:Nat} {w:World} (h:WR g get n w) (c:Array Value) (el:TypeId):
 WR {g with I:=ZC0 g.I w.heap.size 0 c.toList} get n (w.alloc (.cells c el))∧Ext g get n w {g with I:=ZC0 g.I w.heap.size 0 c.toList} get n (w.alloc (.cells c el)):=by
 have hno:∀o x,g.I w.heap.size o=some x→False:=fun o x hx=> by
  have:=h.imm _ o x hx
  unfold World.cell? at this
  rw[Array.getElem?_eq_none (Nat.le_refl _)] at this
  cases this
 refine WR.go (fun _=> False) (fun _=> False) h (Nat.le_refl _) ?_ ?_ ?_ ?_ ?_ ?_ ?_ ?_ ?_ ?_ ?_ ?_ ?_ ?_ rfl rfl rfl ?_ ?_
 ·intro r _ _;exact⟨rfl,rfl,rfl,rfl⟩
 ·intro r h1 h2;omega
 ·exact zkC _ _
 ·intro b hb _;exact zjr _ _ hb
 ·intro _ _ hd;exact hd.elim
 ·exact zkS fun o x hx=> (hno o x hx).elim
 ·intro b o x hx
  rcases zaZ hx with h1|⟨rfl,_⟩
  ·exact .inl h1
  ·exact .inr (.inl (Nat.le_refl _))
 ·intro b o x hx hc
  rcases zaZ hx with h1|⟨rfl,i,rfl,hi⟩
  ·rcases hc with hc|hc
   ·have:=h.imm b o x h1
    unfold World.cell? at this
    rw[Array.getElem?_eq_none hc] at this
    cases this
   ·exact hc.elim
  ·rw[Nat.zero_add,zyP];simpa using hi
 all_goals first
  |(intro r _ hc;exact hc.elim)
  |(intro r r' _ _ hc;exact hc.elim)
  |(intro r m ver left cur _ _ _ hc;exact hc.elim)
  |(intro _ r _ hc;exact hc.elim)
theorem WR.set_row {g:G} {get:Nat→Blk} {n:Nat} {w:World} (h:WR g get n w) {r k:Nat} {cs cs':List V} (hr:r < n) (hg:get r=.row k cs) {c c':Array Value} {el:TypeId}
 (hc:w.heap[g.mu r]?=some (.cells c el (0,0))) (hs:c'.size=c.size) {w':World} (hw:w'.heap=w.heap.setIfInBounds (g.mu r) (.cells c' el (0,0))) (htape:w'.tape=w.tape) (hos:w'.os=w.os) (hout:w'.output=w.output)
 (hk:∀o,o < g.base r+k→c'[o]?=c[o]?) (hl:g.base r+cs'.length≤c.size)
 (hnew:∀(i:Nat) (v:V),cs'[i]?=some v→∃x,c'[g.base r+i]?=some x∧vr g.I (g.at get n) v x):
 WR g (upd get r (.row k cs')) n w'∧Ext g get n w g (upd get r (.row k cs')) n w':=by
 have hb:=h.blk r hr
 rw[hg] at hb
 obtain⟨c0,e0,h1,h2,h3,h4,h5⟩:=hb
 rw[hc] at h1
 cases h1
 have hlt:=QG hc
 have hnc:w'.heap[g.mu r]?=some (.cells c' el (0,0)):=by rw[hw];simp[hlt]
 refine WR.go (fun j=> j=r) (fun b=> b=g.mu r) h (Nat.le_refl _) ?_ ?_ ?_ ?_ ?_ (Imm.le_refl _) (fun _ _ _ hx=> .inl hx) ?_ ?_ ?_ ?_ ?_ ?_ ?_ htape hos hout ?_ ?_
 ·intro j _ hj;exact⟨J7 _ _ hj,rfl,rfl,rfl⟩
 ·intro j h1 h2;omega
 ·rw[hw];simp
 ·intro b _ hd;rw[hw,Array.getElem?_setIfInBounds_ne (Ne.symm hd)]
 ·intro b _ hd;exact⟨r,hr,rfl,by rw[hg];rfl,hd.symm⟩
 ·intro b o x hx hd
  have hx':=h.imm b o x hx
  rcases hd with hd|rfl
  ·unfold World.cell? at hx'
   rw[Array.getElem?_eq_none hd] at hx';cases hx'
  ·have ho:o < g.base r+k:=by
    rcases Nat.lt_or_ge o (g.base r+k) with hh|hh
    ·exact hh
    ·rw[h5 o hh] at hx;cases hx
   unfold World.cell? at hx'⊢
   rw[hc] at hx'
   rw[hnc]
   simpa[hk o ho] using hx'
 ·intro j _ hj _;subst hj;exact⟨by rw[zG];rfl,rfl,rfl,rfl⟩
 ·intro j _ hj _;subst hj;rw[zG];simp
 ·intro j _ hj hw1 hw2 e1;subst hj;rw[hg] at e1;cases e1
 ·intro j hj hjr _;subst hjr;exact .inr ⟨j,hr,rfl,by rw[hg];rfl,rfl⟩
 ·intro j j' _ _ hj hj' _ _ _;rw[hj,hj']
 ·intro j m ver left cur _ _ _ hm es ver' he;subst hm;rw[zG] at he;cases he
 ·intro e j _ hj
  subst hj
  rw[zG]
  refine⟨c',el,hnc,by rw[hs];exact h2,by rw[hs];exact hl,fun i v hv=> ?_,h5⟩
  obtain⟨x,hx,hvr⟩:=hnew i v hv
  exact⟨x,hx,e.vr hvr⟩
 ·intro j _ hj es ver e1;subst hj;rw[hg] at e1;cases e1
end
section
variable {P:Program}
theorem zwu {t:TypeId} {d:TypeDesc} (h:und P t=d) (hd:d≠.invalid):P.underlying t=some d:=by
 unfold und at h
 cases hu:P.underlying t with
 |none=> rw[hu] at h;exact absurd h.symm hd
 |some d'=> rw[hu] at h;simp at h;rw[h]
theorem zn {t:TypeId} {d:TypeDesc} (h:und P t=d) (hd:d≠.invalid) (w:World):(underlying t).run P w=.ok d w:=run_underlying (zwu h hd) w
theorem zjl {t:TypeId} (h:okU P t=true) (w:World):(underlying t).run P w=.ok (und P t) w:=by
 unfold okU at h
 cases hu:P.underlying t with
 |none=> rw[hu] at h;cases h
 |some d=> rw[run_underlying hu w];simp[und,hu]
theorem zbX {t:TypeId} {d:TypeDesc} (h:und P t=d) (hd:d≠.invalid):okU P t=true:=by simp[okU,zwu h hd]
theorem QH {t:TypeId} (h:okT P t=true) (w:World):(sizeOf t).run P w=.ok (ZmI P t) w:=by
 unfold okT at h
 cases hu:P.info? t with
 |none=> rw[hu] at h;cases h
 |some i=> simp[sizeOf,typeInfo,program,ZmI,hu,Sem.run,Result.andThen]
theorem zCW {t:TypeId} (h:okT P t=true) (w:World):∃i,(typeInfo t).run P w=.ok i w∧i.size=ZmI P t∧i.bytes=bytesOf P t:=by
 unfold okT at h
 cases hu:P.info? t with
 |none=> rw[hu] at h;cases h
 |some i=> exact⟨i,by simp[typeInfo,program,hu,Sem.run,Result.andThen],by simp[ZmI,hu],by simp[bytesOf,hu]⟩
theorem zN4 {t:TypeId} {d:TypeDesc} (h:und P t=d) (hd:d≠.invalid):okT P t=true:=by
 have:=zwu h hd
 unfold Program.underlying at this
 unfold okT
 cases hu:P.info? t with
 |none=> rw[hu] at this;cases this
 |some i=> rfl
theorem zyg {t:TypeId} (h:okZ P t=true):okT P t=true:=by
 unfold okZ at h;unfold okT
 cases hu:P.info? t with
 |none=> rw[hu] at h;cases h
 |some i=> rfl
theorem zws {t:TypeId} {z:V} (h:zeroOf P t=some z) (w:World):∃x,(zeroValue t).run P w=.ok x w∧∀I A,vr I A z x:=by
 unfold zeroOf at h
 cases hu:P.info? t with
 |none=> rw[hu] at h;cases h
 |some i=>
  rw[hu] at h
  cases hz:i.zero with
  |none=> simp[hz] at h
  |some x=>
   simp[hz] at h
   exact⟨x,by simp[zeroValue,typeInfo,program,hu,hz,Sem.run,Result.andThen],fun I A=> zDb h⟩
theorem zYP {t:TypeId} (h:okZ P t=true) (w:World):∃x,(zeroValue t).run P w=.ok x w∧x.cells.size=ZmI P t:=by
 unfold okZ at h
 cases hu:P.info? t with
 |none=> rw[hu] at h;cases h
 |some i=>
  rw[hu] at h
  cases hz:i.zero with
  |none=> simp[hz] at h
  |some x=> simp[hz] at h;exact⟨x,by simp[zeroValue,typeInfo,program,hu,hz,Sem.run,Result.andThen],h⟩
theorem zwr {t:TypeId} (h:okU P t=true) (w:World):(isAgg t).run P w=.ok (ZDM P t) w:=by
 unfold isAgg ZDM
 rw[Sem.run_bind,zjl h w]
 simp only[Result.andThen]
 cases und P t <;> rfl
theorem zN5 {t:TypeId} (h:ZDM P t=true):okU P t=true:=by
 unfold ZDM at h
 cases hd:und P t with
 |struct fs=> exact zbX hd (by simp)
 |array n e=> exact zbX hd (by simp)
 |_=> rw[hd] at h;cases h
theorem zN3 {t:TypeId} (h:ZDM P t=true):okT P t=true:=by
 unfold ZDM at h
 cases hd:und P t with
 |struct fs=> exact zN4 hd (by simp)
 |array n e=> exact zN4 hd (by simp)
 |_=> rw[hd] at h;cases h
section
variable {I:Imm} {A:At} {regs:T V} {a:Act}
theorem zQ (hR:RR I A regs a.tmps) {x:Operand} {v:V} (h:rd regs x=some v):vr I A v (a.eval x):=by
 cases x with
 |tmp t=> simp[rd] at h;subst h;exact hR.val t
 |const c=> exact zDb h
 |global g=> cases h
 |func f=> simp[rd] at h;subst h;simp only[vr];exact⟨.func f,#[],#[],rfl,rfl,by simp[vrl],by simp[vrl]⟩
theorem zCS (hR:RR I A regs a.tmps):∀{xs:List Operand} {vs:List V},rds regs xs=some vs→vrl I A vs (xs.map a.eval)
 |[],vs,h=> by simp[rds] at h;subst h;simp[vrl]
 |x::xs,vs,h=> by
  simp only[rds] at h
  cases h1:rd regs x with
  |none=> simp[h1] at h
  |some v=>
   cases h2:rds regs xs with
   |none=> simp[h1,h2] at h
   |some us=>
    simp[h1,h2] at h;subst h
    simp only[List.map_cons,vrl]
    exact⟨_,_,rfl,zQ hR h1,zCS hR h2⟩
theorem zwp (hR:RR I A regs a.tmps) {xs:Array Operand} {vs:List V} (h:rds regs xs.toList=some vs):vrl I A vs (xs.map a.eval).toList:=by
 rw[Array.toList_map];exact zCS hR h
theorem QE {x:Operand} {k:V→Option Eff} {e:Eff} (h:rd1 regs x k=some e):∃v,rd regs x=some v∧k v=some e:=by
 unfold rd1 at h
 cases h1:rd regs x with
 |none=> rw[h1] at h;cases h
 |some v=> rw[h1] at h;exact⟨v,rfl,h⟩
theorem zbE {x y:Operand} {k:V→V→Option Eff} {e:Eff} (h:rd2 regs x y k=some e):∃v u,rd regs x=some v∧rd regs y=some u∧k v u=some e:=by
 unfold rd2 at h
 cases h1:rd regs x with
 |none=> rw[h1] at h;cases h
 |some v=>
  cases h2:rd regs y with
  |none=> rw[h1,h2] at h;cases h
  |some u=> rw[h1,h2] at h;exact⟨v,u,rfl,rfl,h⟩
end
theorem QI {x:Option V} {e:Eff} (h:val x=some e):∃v,x=some v∧e={v}:=by
 unfold val at h
 cases x with
 |none=> cases h
 |some v=> simp at h;exact⟨v,rfl,h.symm⟩
def Gives (P:Program) (o:Oper) (a:Act) (w:World) (x:Value) (w':World):Prop:=
 (execOp a.eval o).run P w=.ok (.value x) w'∨((execOp a.eval o).run P w=.ok .skip w'∧x=undef)
def ZDs (get:Nat→Blk):List (Nat×Blk)→Nat→Blk
 |[]=> get
 |(r,b)::l=> ZDs (upd get r b) l
def ZEy (get:Nat→Blk) (nid:Nat):List Blk→Nat→Blk
 |[]=> get
 |b::l=> ZEy (upd get nid b) (nid+1) l
def Eff.upd (e:Eff) (get:Nat→Blk) (nid:Nat):Nat→Blk:=ZEy (ZDs get e.wr) nid e.nw
def Eff.top (e:Eff) (n nid:Nat):Nat:=match e.nw with|[]=> n|l=> max n (nid+l.length)
def ZDn (P:Program) (o:Oper) (a:Act) (g:G) (get:Nat→Blk) (n:Nat) (w:World) (nid:Nat) (e:Eff):Prop:=
 ∃x w' g',Gives P o a w x w'∧WR g' (e.upd get nid) (e.top n nid) w'∧Ext g get n w g' (e.upd get nid) (e.top n nid) w'∧vr g'.I (g'.at (e.upd get nid) (e.top n nid)) e.v x
theorem zad {o:Oper} {a:Act} {g:G} {get:Nat→Blk} {n:Nat} {w:World} {nid:Nat} {v:V} {rs:List Nat} {p:Bool} {x:Value} (hW:WR g get n w)
 (hg:(execOp a.eval o).run P w=.ok (.value x) w) (hv:vr g.I (g.at get n) v x):ZDn P o a g get n w nid {v,rd:=rs,pan:=p}:=
 ⟨x,w,g,.inl hg,hW,Ext.refl _ _ _ _,hv⟩
theorem zaU {o:Oper} {a:Act} {s:Sem Value} {x:Value} {w w':World} (he:execOp a.eval o=(do pure (.value (←s)))) (h:s.run P w=.ok x w'):(execOp a.eval o).run P w=.ok (.value x) w':=by
 rw[he,Sem.run_bind,h];rfl
theorem zCY {o:Oper} {a:Act} {s:Sem Unit} {w w':World} (he:execOp a.eval o=(do s;pure .skip)) (h:s.run P w=.ok () w'):(execOp a.eval o).run P w=.ok .skip w':=by
 rw[he,Sem.run_bind,h];rfl
end
section
variable {P:Program}
theorem za5 (b o i:Nat):(⟨b,o,none⟩:Addr).add i=⟨b,o+i,none⟩:=by
 unfold Addr.add
 split
 ·rename_i h;subst h;rfl
 ·rfl
theorem zQz (ys:Array Value) (i n:Nat):(ys.extract i (i+n)).toList=(ys.toList.drop i).take n:=by
 rw[Array.toList_extract,List.extract_eq_take_drop]
 congr 1
 omega
theorem zyt {I:Imm} {A:At} {cs:List V} {ys:Array Value} (h:vrl I A cs ys.toList) {t:TypeId} {off:Nat} {v:V} (hl:ZCC P t (cs.drop off)=some v) (w:World):
 ∃x,(part t ys off).run P w=.ok x w∧vr I A v x:=by
 unfold ZCC at hl
 by_cases ha:ZDM P t=true
 ·rw[if_pos ha] at hl
  split at hl
  ·rename_i hle
   obtain rfl:=Option.some.inj hl
   refine⟨.agg (ys.extract off (off+ZmI P t)),?_,?_⟩
   ·unfold part
    rw[Sem.run_bind,zwr (zN5 ha) w]
    simp only[Result.andThen,ha,if_true,Sem.run_bind,QH (zN3 ha) w,Sem.run_pure]
   ·simp only[vr]
    exact⟨_,rfl,by rw[zQz];exact zjo (zb0 h off) _⟩
  ·cases hl
 ·rw[if_neg ha] at hl
  split at hl
  ·rename_i hu
   rw[List.head?_drop] at hl
   obtain⟨x,hx,hv⟩:=zab h hl
   refine⟨x,?_,hv⟩
   unfold part
   rw[Sem.run_bind,zwr hu w]
   have hf:ZDM P t=false:=by simpa using ha
   have hx':ys[off]?=some x:=by simpa using hx
   simp only[Result.andThen,hf,Bool.false_eq_true,if_false,hx',Sem.run_pure]
  ·cases hl
def Holds (w:World) (b o:Nat) (xs:List Value):Prop:=∀(i:Nat) (x:Value),xs[i]?=some x→w.cell? ⟨b,o+i,none⟩=some x
theorem Holds.take {w:World} {b o:Nat} {xs:List Value} (h:Holds w b o xs) (n:Nat):Holds w b o (xs.take n):=fun i x hx=> by
 rw[List.getElem?_take] at hx
 split at hx
 ·exact h i x hx
 ·cases hx
theorem Holds.drop {w:World} {b o:Nat} {xs:List Value} (h:Holds w b o xs) (n:Nat):Holds w b (o+n) (xs.drop n):=fun i x hx=> by
 rw[List.getElem?_drop] at hx
 have:=h _ x hx
 rwa [←Nat.add_assoc] at this
theorem Holds.load {w:World} {b o:Nat} {xs:List Value} (h:Holds w b o xs):(loadCells ⟨b,o,none⟩ xs.length).run P w=.ok xs.toArray w:=
 run_loadCells_list w _ xs fun j v hv=> by rw[za5];exact h j v hv
theorem zOw {I:Imm} {A:At} {cs:List V} {xs:List Value} {w:World} {b o:Nat} (hc:vrl I A cs xs) (hh:Holds w b o xs) {t:TypeId} {v:V} (hl:ZCC P t cs=some v):
 ∃x,(loadVar t ⟨b,o,none⟩).run P w=.ok x w∧vr I A v x:=by
 unfold ZCC at hl
 by_cases ha:ZDM P t=true
 ·rw[if_pos ha] at hl
  split at hl
  ·rename_i hle
   obtain rfl:=Option.some.inj hl
   have hlen:(xs.take (ZmI P t)).length=ZmI P t:=by rw[List.length_take,Zg hc];omega
   have:=(hh.take (ZmI P t)).load (P:=P)
   rw[hlen] at this
   refine⟨.agg (xs.take (ZmI P t)).toArray,?_,?_⟩
   ·unfold loadVar
    rw[Sem.run_bind,zwr (zN5 ha) w]
    simp only[Result.andThen,ha,if_true,Sem.run_bind,QH (zN3 ha) w,this,Sem.run_pure]
   ·simp only[vr]
    exact⟨_,rfl,zjo hc _⟩
  ·cases hl
 ·rw[if_neg ha] at hl
  split at hl
  ·rename_i hu
   rw[List.head?_eq_getElem?] at hl
   obtain⟨x,hx,hv⟩:=zab hc hl
   refine⟨x,?_,hv⟩
   have:=hh 0 x hx
   unfold loadVar
   rw[Sem.run_bind,zwr hu w]
   have hf:ZDM P t=false:=by simpa using ha
   simp only[Result.andThen,hf,Bool.false_eq_true,if_false]
   unfold load
   simp only[Sem.run]
   rw[Nat.add_zero] at this
   rw[this]
  ·cases hl
theorem zzb {I:Imm} {w:World} (hi:∀b o x,I b o=some x→w.cell? ⟨b,o,none⟩=some x) {b o:Nat} {cs:List V} (h:vra I b o cs):∃xs,vrl I At.bot cs xs∧Holds w b o xs:=by
 obtain⟨xs,h1,h2⟩:=zZo h
 exact⟨xs,h1,fun i x hx=> hi _ _ _ (h2 i x hx)⟩
theorem zkm {g:G} {get:Nat→Blk} {n:Nat} {w:World} (h:WR g get n w) {r k:Nat} {cs:List V} (hr:r < n) (hg:get r=.row k cs):
 ∃c el xs,w.heap[g.mu r]?=some (.cells c el (0,0))∧c.size=g.ts r∧g.base r+cs.length≤c.size∧vrl g.I (g.at get n) cs xs∧xs=(c.toList.drop (g.base r)).take cs.length∧Holds w (g.mu r) (g.base r) xs∧∀o,g.base r+k≤o→g.I (g.mu r) o=none:=by
 have hb:=h.blk r hr
 rw[hg] at hb
 obtain⟨c,el,h1,h2,h3,h4,h5⟩:=hb
 refine⟨c,el,(c.toList.drop (g.base r)).take cs.length,h1,h2,h3,?_,rfl,?_,h5⟩
 ·refine zky ?_ fun i v hv=> ?_
  ·simp only[List.length_take,List.length_drop,Array.length_toList];omega
  ·obtain⟨x,hx,hvr⟩:=h4 i v hv
   have hi:i < cs.length:=(List.getElem?_eq_some_iff.1 hv).1
   exact⟨x,by rw[List.getElem?_take,if_pos hi,List.getElem?_drop];simpa using hx,hvr⟩
 ·intro i x hx
  rw[List.getElem?_take] at hx
  split at hx
  ·rw[List.getElem?_drop] at hx
   unfold World.cell?
   rw[h1]
   simpa using hx
  ·cases hx
end
section
variable {P:Program}
theorem zD5 (off:Nat):∀(l:List Value) (k:Nat) (cells:Array Value),off+k+l.length≤cells.size→
 ((l.zipIdx k).foldl (fun cs (p:Value×Nat)=> cs.setIfInBounds (off+p.2) p.1) cells).toList=cells.toList.take (off+k)++l++cells.toList.drop (off+k+l.length)
 |[],k,cells,_=> by simp
 |v::l,k,cells,h=> by
  simp only[List.length_cons] at h
  rw[List.zipIdx_cons,List.foldl_cons,zD5 off l (k+1) _ (by rw[Array.size_setIfInBounds];omega),Array.toList_setIfInBounds]
  have:=list_seg_step cells.toList (off+k) v l (by rw[Array.length_toList];omega)
  rw[show off+(k+1)=off+k+1 by omega]
  rw[this]
  simp only[List.length_cons]
theorem zwQ {I:Imm} {A:At} {place:Nat→Option (Nat×Nat)}:∀{parts:List (Nat×V)} {parts':List (Nat×Value)} {cells:List V} {cells':Array Value} {out:List V},
 parts'.map (·.1)=parts.map (·.1)→vrl I A (parts.map (·.2)) (parts'.map (·.2))→vrl I A cells cells'.toList→ZDJ place cells parts=some out→
 ∃out',Instr.fill place cells' parts'=some out'∧vrl I A out out'.toList
 |[],parts',cells,cells',out,h1,h2,h3,h4=> by
  have:parts'=[]:=by simpa using h1
  subst this
  simp only[ZDJ] at h4
  obtain rfl:=Option.some.inj h4
  exact⟨cells',rfl,h3⟩
 |(i,v)::rest,parts',cells,cells',out,h1,h2,h3,h4=> by
  cases parts' with
  |nil=> simp at h1
  |cons p parts'=>
   obtain⟨i',x⟩:=p
   simp only[List.map_cons,List.cons.injEq] at h1
   obtain⟨rfl,h1⟩:=h1
   simp only[List.map_cons,vrl] at h2
   obtain⟨x',xs,he,hv,h2⟩:=h2
   obtain⟨rfl,rfl⟩:=List.cons.inj he
   simp only[ZDJ] at h4
   unfold Instr.fill
   cases hp:place i' with
   |none=> simp[hp] at h4
   |some os=>
    obtain⟨off,size⟩:=os
    simp only[hp] at h4⊢
    split at h4
    ·rename_i hsz
     cases hs:splice cells v.cells off with
     |none=> simp[hs] at h4
     |some cs=>
      simp only[hs] at h4
      have hc:=zks hv
      obtain⟨hle,hsp⟩:=zO4 h3 hc hs
      have hl1:x.cells.size=v.cells.length:=by rw[←Array.length_toList];exact Zg hc
      have hl2:cells'.size=cells.length:=by rw[←Array.length_toList];exact Zg h3
      rw[if_neg (by simp;omega)]
      have hfold:(x.cells.zipIdx.foldl (fun cs (c,j)=> cs.setIfInBounds (off+j) c) cells').toList=cells'.toList.take off++x.cells.toList++cells'.toList.drop (off+x.cells.toList.length):=by
       have:=zD5 off x.cells.toList 0 cells' (by rw[Array.length_toList];omega)
       simp only[Nat.add_zero] at this
       rw[←this,←Array.foldl_toList,Array.toList_zipIdx]
      refine zwQ h1 h2 ?_ h4
      rw[hfold]
      exact hsp
    ·cases h4
theorem zYZ {cs new cs':List V} {off:Nat} (h:splice cs new off=some cs'):cs'.length=cs.length:=by
 unfold splice at h
 split at h
 ·rename_i hle
  obtain rfl:=Option.some.inj h
  simp only[List.length_append,List.length_take,List.length_drop]
  omega
 ·cases h
theorem zDT {place:Nat→Option (Nat×Nat)}:∀{parts:List (Nat×V)} {cells out:List V},ZDJ place cells parts=some out→out.length=cells.length
 |[],cells,out,h=> by simp only[ZDJ] at h;obtain rfl:=Option.some.inj h;rfl
 |(i,v)::rest,cells,out,h=> by
  simp only[ZDJ] at h
  cases hp:place i with
  |none=> simp[hp] at h
  |some os=>
   obtain⟨off,size⟩:=os
   simp only[hp] at h
   split at h
   ·cases hs:splice cells v.cells off with
    |none=> simp[hs] at h
    |some cs=> simp only[hs] at h;rw[zDT h,zYZ hs]
   ·cases h
theorem zCP {I:Imm} {A:At} {regs:T V} {a:Act} (hR:RR I A regs a.tmps):∀{ps:List (Nat×Operand)} {vs:List (Nat×V)},ZEw regs ps=some vs→
 (ps.map fun (p:Nat×Operand)=> (p.1,a.eval p.2)).map (·.1)=vs.map (·.1)∧vrl I A (vs.map (·.2)) ((ps.map fun (p:Nat×Operand)=> (p.1,a.eval p.2)).map (·.2))
 |[],vs,h=> by simp[ZEw] at h;subst h;simp[vrl]
 |(i,x)::ps,vs,h=> by
  simp only[ZEw] at h
  cases h1:rd regs x with
  |none=> simp[h1] at h
  |some v=>
   cases h2:ZEw regs ps with
   |none=> simp[h1,h2] at h
   |some us=>
    simp[h1,h2] at h;subst h
    obtain⟨k1,k2⟩:=zCP hR h2
    refine⟨by simpa using k1,?_⟩
    simp only[List.map_cons,vrl]
    exact⟨_,_,rfl,zQ hR h1,k2⟩
theorem zNI (w:World):∀(fs:List Field),fs.all (fun f=> okT P f.type)=true→
 (fs.mapM fun f=> (do pure (f.offset,←sizeOf f.type):Sem (Nat×Nat))).run P w=.ok (fs.map fun f=> (f.offset,ZmI P f.type)) w
 |[],_=> rfl
 |f::fs,h=> by
  simp only[List.all_cons,Bool.and_eq_true] at h
  rw[List.mapM_cons,Sem.run_bind]
  simp only[Sem.run_bind,QH h.1 w,Result.andThen,Sem.run_pure,zNI w fs h.2,List.map_cons]
theorem zXE (w:World) (fs:List Field) (h:fs.all (fun f=> okT P f.type)=true):
 (fs.toArray.mapM fun f=> (do pure (f.offset,←sizeOf f.type):Sem (Nat×Nat))).run P w=.ok (fs.map fun f=> (f.offset,ZmI P f.type)).toArray w:=by
 rw[List.mapM_toArray,Sem.run_map,zNI w fs h];rfl
theorem zPF {I:Imm} {A:At} {t:TypeId} {vs:List (Nat×V)} {xs:Array (Nat×Value)} (h1:xs.toList.map (·.1)=vs.map (·.1)) (h2:vrl I A (vs.map (·.2)) (xs.toList.map (·.2))) {v:V} (h:build P t vs=some v) (w:World):
 ∃x,(Instr.build t xs).run P w=.ok x w∧vr I A v x:=by
 unfold build at h
 cases hz:zeroOf P t with
 |none=> simp[hz] at h
 |some z=>
  obtain⟨zx,hzr,hzv⟩:=zws hz w
  have hzc:=zks (hzv I A)
  simp only[hz] at h
  unfold Instr.build
  rw[Sem.run_bind,hzr]
  simp only[Result.andThen,Sem.run_bind]
  cases hd:und P t with
  |struct fs=>
   simp only[hd] at h
   split at h
   ·rename_i hok
    cases hf:ZDJ (fun i=> fs.toList[i]?.map fun f=> (f.offset,ZmI P f.type)) z.cells vs with
    |none=> rw[hf] at h;cases h
    |some cs=>
     rw[hf] at h;obtain rfl:=Option.some.inj h
     rw[zn hd (by simp) w]
     have hm':=zXE (P:=P) w fs.toList hok
     rw[Array.toArray_toList] at hm'
     simp only[Result.andThen,Sem.run_bind,hm']
     obtain⟨out',e1,e2⟩:=zwQ (place:=fun i=> fs.toList[i]?.map fun f=> (f.offset,ZmI P f.type)) h1 h2 hzc hf
     have hpl:(fun i:Nat=> (fs.toList.map fun f=> (f.offset,ZmI P f.type)).toArray[i]?)=fun i=> fs.toList[i]?.map fun f=> (f.offset,ZmI P f.type):=by
      funext i;simp
     rw[hpl,e1]
     exact⟨.agg out',rfl,by simp only[vr];exact⟨out',rfl,e2⟩⟩
   ·cases h
  |array m el=>
   simp only[hd] at h
   split at h
   ·rename_i hok
    cases hf:ZDJ (fun i=> some (i * ZmI P el,ZmI P el)) z.cells vs with
    |none=> rw[hf] at h;cases h
    |some cs=>
     rw[hf] at h;obtain rfl:=Option.some.inj h
     rw[zn hd (by simp) w]
     simp only[Result.andThen,Sem.run_bind,QH hok w]
     obtain⟨out',e1,e2⟩:=zwQ (place:=fun i=> some (i * ZmI P el,ZmI P el)) h1 h2 hzc hf
     rw[e1]
     exact⟨.agg out',rfl,by simp only[vr];exact⟨out',rfl,e2⟩⟩
   ·cases h
  |_=> simp[hd] at h
theorem zju {I:Imm} {A:At} {v:V} {x:Value} (hv:vr I A v x) {i:Int} (hi:asI v=some i) {y:Nat} (h0:0≤i) (hy:i≤y) (code:BoundsCode) (w:World):(Instr.sliceBound x y code).run P w=.ok i.toNat w:=by
 cases v with
 |int k n=>
  simp[asI] at hi;subst hi
  simp only[vr] at hv;subst hv
  simp[Instr.sliceBound,asIntOf,h0,hy]
 |_=> cases hi
def ZFA (I:Imm) (A:At):Option V→Option Value→Prop
 |none,none=> True
 |some v,some x=> vr I A v x
 |_,_=> False
theorem zjt {d:Option Nat} {y:Nat} {v:Option V} {k:Nat} (h:bd1 d y v=some k):(v=none∧d=some k)∨∃u i,v=some u∧asI u=some i∧0≤i∧i≤y∧k=i.toNat:=by
 unfold bd1 at h
 cases v with
 |none=> exact .inl ⟨rfl,h⟩
 |some u=>
  cases hi:asI u with
  |none=> simp[hi] at h
  |some i=>
   simp only[hi] at h
   split at h
   ·rename_i hc;exact .inr ⟨u,i,rfl,hi,hc.1,hc.2,(Option.some.inj h).symm⟩
   ·cases h
theorem zwB {I:Imm} {A:At} {lo hi mx:Option V} {lo' hi' mx':Option Value} (hlo:ZFA I A lo lo') (hhi:ZFA I A hi hi') (hmx:ZFA I A mx mx') {len cap cap' l h m:Nat}
 (hs:ZD7 len cap lo hi mx=some (l,h,m)) (hcap:cap≤cap') (hlen:len≤cap) (isSlice:Bool) (w:World):
 (Instr.sliceBounds isSlice len cap' lo' hi' mx').run P w=.ok (l,h,if mx.isSome then m else cap') w∧l≤h∧h≤m∧m≤cap∧(mx=none→m=cap)∧(hi=none→h=len):=by
 unfold ZD7 at hs
 cases h1:bd1 (some cap) cap mx with
 |none=> rw[h1] at hs;cases hs
 |some m0=>
  cases h2:bd1 (if mx.isSome then none else some len) m0 hi with
  |none=> simp[h1,h2] at hs
  |some h0=>
   cases h3:bd1 (some 0) h0 lo with
   |none=> simp[h1,h2,h3] at hs
   |some l0=>
    simp only[h1,h2,h3,Option.some.injEq,Prod.mk.injEq] at hs
    obtain⟨rfl,rfl,rfl⟩:=hs
    unfold Instr.sliceBounds
    rcases zjt h1 with ⟨rfl,e1⟩|⟨mu,mi,rfl,m1,m2,m3,rfl⟩
    ·cases mx' with
     |some _=> exact hmx.elim
     |none=>
      obtain rfl:=Option.some.inj e1
      rcases zjt h2 with ⟨rfl,e2⟩|⟨hu,hi1,rfl,k1,k2,k3,rfl⟩
      ·cases hi' with
       |some _=> exact hhi.elim
       |none=>
        have e2':len=h0:=by simpa using e2
        subst e2'
        rcases zjt h3 with ⟨rfl,e3⟩|⟨lu,li,rfl,j1,j2,j3,rfl⟩
        ·cases lo' with
         |some _=> exact hlo.elim
         |none=>
          obtain rfl:=Option.some.inj e3
          refine⟨by simp,?_⟩
          omega
        ·cases lo' with
         |none=> exact hlo.elim
         |some lx=>
          refine⟨by simp[zju (P:=P) hlo j1 j2 j3 _ w],?_⟩
          omega
      ·cases hi' with
       |none=> exact hhi.elim
       |some hx=>
        have hb:=zju (P:=P) hhi k1 k2 (y:=cap') (by omega) (if isSlice then .sliceAcap else .sliceAlen) w
        rcases zjt h3 with ⟨rfl,e3⟩|⟨lu,li,rfl,j1,j2,j3,rfl⟩
        ·cases lo' with
         |some _=> exact hlo.elim
         |none=>
          obtain rfl:=Option.some.inj e3
          refine⟨by simp[hb],?_⟩
          simp;omega
        ·cases lo' with
         |none=> exact hlo.elim
         |some lx=>
          refine⟨by simp[hb,zju (P:=P) hlo j1 j2 j3 _ w],?_⟩
          simp;omega
    ·cases mx' with
     |none=> exact hmx.elim
     |some mxx=>
      have hbm:=zju (P:=P) hmx m1 m2 (y:=cap') (by omega) (if isSlice then .slice3Acap else .slice3Alen) w
      rcases zjt h2 with ⟨rfl,e2⟩|⟨hu,hi1,rfl,k1,k2,k3,rfl⟩
      ·simp at e2
      ·cases hi' with
       |none=> exact hhi.elim
       |some hx=>
        have hb:=zju (P:=P) hhi k1 k2 k3 .slice3B w
        rcases zjt h3 with ⟨rfl,e3⟩|⟨lu,li,rfl,j1,j2,j3,rfl⟩
        ·cases lo' with
         |some _=> exact hlo.elim
         |none=>
          obtain rfl:=Option.some.inj e3
          refine⟨by simp[hbm,hb],?_⟩
          simp;omega
        ·cases lo' with
         |none=> exact hlo.elim
         |some lx=>
          refine⟨by simp[hbm,hb,zju (P:=P) hlo j1 j2 j3 _ w],?_⟩
          simp;omega
end
section
variable {P:Program}
theorem zc8 {l h sz:Nat} (hl:l≤h):l * sz+(h - l) * sz=h * sz:=by
 rw[←Nat.add_mul];congr 1;omega
theorem zYS {α:Type} {cs:List α} {len sz l h:Nat} (hc:cs.length=len * sz) (hl:l≤h) (hh:h≤len):((cs.drop (l * sz)).take ((h - l) * sz)).length=(h - l) * sz:=by
 have h1:=zc8 (sz:=sz) hl
 have h2:h * sz≤len * sz:=Nat.mul_le_mul_right _ hh
 rw[List.length_take,List.length_drop,hc]
 omega
section
variable {g:G} {get:Nat→Blk} {n:Nat}
theorem zYY {t:TypeId} {x:V} {x':Value} (hx:vr g.I (g.at get n) x x') {lo hi mx:Option V} {lo' hi' mx':Option Value} (hlo:ZFA g.I (g.at get n) lo lo') (hhi:ZFA g.I (g.at get n) hi hi') (hmx:ZFA g.I (g.at get n) mx mx')
 {v:V} (hs:ZE4 P t x lo hi mx=some v) (w:World):∃y,(Instr.sliceAt t x' lo' hi' mx').run P w=.ok y w∧vr g.I (g.at get n) v y:=by
 unfold ZE4 at hs
 split at hs
 ·
  rename_i s hd
  split at hs
  ·cases hs
  ·rename_i hnm
   cases mx with
   |some _=> simp at hnm
   |none=>
    cases mx' with
    |some _=> exact hmx.elim
    |none=>
     cases hb:ZD7 s.size s.size lo hi none with
     |none=> simp[hb] at hs
     |some p=>
      obtain⟨l,h,m⟩:=p
      simp only[hb] at hs
      obtain rfl:=Option.some.inj hs
      simp only[vr] at hx;subst hx
      obtain⟨hr,_⟩:=zwB (P:=P) hlo hhi (mx:=none) (mx':=none) trivial hb (Nat.le_refl _) (Nat.le_refl _) false w
      refine⟨.string (s.extract l h),?_,by simp[vr]⟩
      unfold Instr.sliceAt
      rw[Sem.run_bind,zn hd (by simp) w]
      simp only[Result.andThen]
      unfold Instr.slice
      rw[Sem.run_bind,zn hd (by simp) w]
      simp only[Result.andThen,Option.isSome_none,Bool.false_eq_true,if_false,Sem.run_bind,Sem.run_pure,hr]
 ·
  rename_i e hd
  split at hs
  ·rename_i hok
   cases hb:ZD7 0 0 lo hi mx with
   |none=> simp[hb] at hs
   |some p=>
    obtain⟨l,h,m⟩:=p
    simp only[hb] at hs
    obtain rfl:=Option.some.inj hs
    simp only[vr] at hx;subst hx
    obtain⟨hr,h1,h2,h3,_⟩:=zwB (P:=P) hlo hhi hmx hb (Nat.le_refl _) (Nat.le_refl _) true w
    refine⟨.slice none 0 0,?_,by simp[vr]⟩
    unfold Instr.sliceAt
    rw[Sem.run_bind,zn hd (by simp) w]
    simp only[Result.andThen]
    unfold Instr.slice
    rw[Sem.run_bind,zn hd (by simp) w]
    simp only[Result.andThen,Sem.run_bind,hr,QH hok w,Sem.run_pure]
    have e1:l=0:=by omega
    have e2:h=0:=by omega
    have e3:m=0:=by omega
    subst e1 e2 e3
    cases mx <;> simp
  ·cases hs
 ·
  rename_i e cs len sz own hd
  split at hs
  ·rename_i hok
   obtain⟨rfl,hok⟩:=hok
   cases hb:ZD7 len len lo hi mx with
   |none=> simp[hb] at hs
   |some p=>
    obtain⟨l,h,m⟩:=p
    simp only[hb] at hs
    obtain rfl:=Option.some.inj hs
    simp only[vr] at hx
    obtain⟨b,o,cap,rfl,hcap,hlen,hra,hown⟩:=hx
    obtain⟨hr,h1,h2,h3,h4,h5⟩:=zwB (P:=P) hlo hhi hmx hb hcap (Nat.le_refl _) true w
    generalize hm':(if mx.isSome then m else cap)=m' at hr
    have hm1:m≤m':=by rw[←hm'];split <;> omega
    have hm2:m'≤cap:=by rw[←hm'];split <;> omega
    refine⟨.slice (some ⟨b,if m'=l then o else o+l * ZmI P e,none⟩) (h - l) (m' - l),?_,?_⟩
    ·unfold Instr.sliceAt
     rw[Sem.run_bind,zn hd (by simp) w]
     simp only[Result.andThen]
     unfold Instr.slice
     rw[Sem.run_bind,zn hd (by simp) w]
     simp only[Result.andThen,Sem.run_bind,hr,QH hok w,Sem.run_pure]
     congr 2
     split
     ·rfl
     ·simp only[Option.map_some,za5]
    ·simp only[vr]
     refine⟨b,_,_,rfl,by omega,zYS hlen h1 (by omega),?_,?_⟩
     ·by_cases hml:m'=l
      ·have:h - l=0:=by omega
       rw[this];simp[vra]
      ·rw[if_neg hml]
       exact zZn (zDc hra _) _
     ·have k1:=zc8 (sz:=ZmI P e) h1
      have k2:=zc8 (sz:=ZmI P e) (l:=l) (h:=m') (by omega)
      cases mx with
      |some mv=>
       simp only[Option.isSome_some,if_true] at hm'⊢
       by_cases hmh:m=h
       ·rw[if_pos hmh];show m' - l=h - l;omega
       ·rw[if_neg hmh];trivial
      |none=>
       simp only[Option.isSome_none,Bool.false_eq_true,if_false] at hm'⊢
       by_cases hhl:h=len
       ·rw[if_pos hhl]
        cases own with
        |tight=> show m' - l=h - l;have:cap=len:=hown;omega
        |lock=> trivial
        |tok r e'=>
         simp only
         rcases hown with ⟨hc,hx⟩|hown
         ·exact .inl ⟨by omega,hx⟩
         ·have:(g.at get n).tok r e' b (o+len * ZmI P e) (o+cap * ZmI P e):=hown
          by_cases hml:m'=l
          ·exact .inl ⟨by omega,_,_,_,this⟩
          ·right
           rw[if_neg hml]
           show(g.at get n).tok r e' b _ _
           rw[show o+l * ZmI P e+(h - l) * ZmI P e=o+len * ZmI P e by rw[Nat.add_assoc,k1,hhl],show o+l * ZmI P e+(m' - l) * ZmI P e=o+cap * ZmI P e by rw[Nat.add_assoc,k2,←hm']]
           exact this
       ·rw[if_neg hhl];trivial
  ·cases hs
 ·
  rename_i e r off len cap sz ex hd
  split at hs
  ·rename_i hok
   obtain⟨rfl,hok⟩:=hok
   cases hb:ZD7 len cap lo hi mx with
   |none=> simp[hb] at hs
   |some p=>
    obtain⟨l,h,m⟩:=p
    simp only[hb] at hs
    simp only[vr] at hx
    obtain⟨a,c,rfl,hr0,hfm,rfl,hlc,hcc,hex,hts⟩:=hx
    obtain⟨hr,h1,h2,h3,h4,h5⟩:=zwB (P:=P) hlo hhi hmx hb hcc hlc true w
    generalize hm':(if mx.isSome then m else c)=m' at hr
    have hm1:m≤m':=by rw[←hm'];split <;> omega
    have hm2:m'≤c:=by rw[←hm'];split <;> omega
    refine⟨.slice (some ⟨g.mu r,if m'=l then g.base r+off else g.base r+off+l * ZmI P e,none⟩) (h - l) (m' - l),?_,?_⟩
    ·unfold Instr.sliceAt
     rw[Sem.run_bind,zn hd (by simp) w]
     simp only[Result.andThen]
     unfold Instr.slice
     rw[Sem.run_bind,zn hd (by simp) w]
     simp only[Result.andThen,Sem.run_bind,hr,QH hok w,Sem.run_pure]
     congr 2
     split
     ·rfl
     ·simp only[Option.map_some,za5]
    ·by_cases hml:m=l
     ·rw[if_pos hml] at hs
      obtain rfl:=Option.some.inj hs
      simp only[vr]
      refine⟨_,_,_,by rw[show h - l=0 by omega],by omega,by simp,by simp[vra],trivial⟩
     ·rw[if_neg hml] at hs
      obtain rfl:=Option.some.inj hs
      have hne:m'≠l:=by omega
      simp only[vr]
      refine⟨_,_,rfl,hr0,hfm,by rw[if_neg hne,Nat.add_assoc],by omega,by omega,fun he=> ?_,?_⟩
      ·cases mx with
       |some mv=> simp at hm';omega
       |none=>
        simp at hm' he
        have:=hex he
        have:=h4 rfl
        omega
      ·have k2:=zc8 (sz:=ZmI P e) (l:=l) (h:=m') (by omega)
       have k3:m' * ZmI P e≤c * ZmI P e:=Nat.mul_le_mul_right _ hm2
       omega
  ·cases hs
 ·cases hs
theorem zDi {p:V} {x:Value} (hx:vr g.I (g.at get n) p x) {m:Nat} {v:V} (h:ZmN p m=some v):∃b o,x=.pointer (some ⟨b,o,none⟩)∧vr g.I (g.at get n) v (.pointer (some ⟨b,o+m,none⟩)):=by
 unfold ZmN at h
 cases p with
 |ptr r off=>
  simp only[vr] at hx
  obtain⟨a,rfl,h1,h2,rfl⟩:=hx
  obtain rfl:=Option.some.inj h
  refine⟨_,_,rfl,?_⟩
  simp only[vr]
  exact⟨_,rfl,h1,h2,by rw[Nat.add_assoc]⟩
 |iptr cs=>
  simp only[vr] at hx
  obtain⟨b,o,rfl,hra⟩:=hx
  simp only at h
  split at h
  ·obtain rfl:=Option.some.inj h
   refine⟨b,o,rfl,?_⟩
   simp only[vr]
   exact⟨b,_,rfl,zDc hra m⟩
  ·cases h
 |_=> cases h
theorem zQ9 {t:TypeId} {x i:V} {x' i':Value} (hx:vr g.I (g.at get n) x x') (hi:vr g.I (g.at get n) i i') {v:V} (h:indexAddr P t x i=some v) (w:World):∃y,(Instr.indexAt t x' i').run P w=.ok y w∧vr g.I (g.at get n) v y:=by
 unfold indexAddr at h
 cases i with
 |int k m=>
  simp only[vr] at hi;subst hi
  simp only[asI] at h
  unfold Instr.indexAt
  simp only[asIntOf,Sem.run_bind,Sem.run_pure,Result.andThen]
  split at h
  ·rename_i len e hd
   split at h
   ·rename_i hc
    obtain⟨c1,c2,c3⟩:=hc
    obtain⟨b,o,rfl,hv⟩:=zDi hx h
    refine⟨_,?_,hv⟩
    rw[zn hd (by simp) w]
    simp only[Result.andThen,Instr.sureAddr,Sem.run_bind,Sem.run_pure,zn hd (by simp) w,if_pos (And.intro c1 c2),QH c3 w,za5]
   ·cases h
  ·rename_i e cs len sz own hd
   split at h
   ·rename_i hc
    obtain⟨c1,c2,c3⟩:=hc
    obtain rfl:=Option.some.inj h
    simp only[vr] at hx
    obtain⟨b,o,cap,rfl,_,_,hra,_⟩:=hx
    refine⟨.pointer (some ⟨b,o+m.toNat * ZmI P e,none⟩),?_,?_⟩
    ·rw[zn hd (by simp) w]
     simp only[Result.andThen,Sem.run_bind,Sem.run_pure,zn hd (by simp) w,if_pos (And.intro c1 c2),QH c3 w,za5]
    ·simp only[vr];exact⟨b,_,rfl,zDc hra _⟩
   ·cases h
  ·rename_i e r off len cap sz ex hd
   split at h
   ·rename_i hc
    obtain⟨c1,c2,c3⟩:=hc
    obtain rfl:=Option.some.inj h
    simp only[vr] at hx
    obtain⟨a,c,rfl,hr0,hfm,rfl,_⟩:=hx
    refine⟨.pointer (some ⟨g.mu r,g.base r+off+m.toNat * ZmI P e,none⟩),?_,?_⟩
    ·rw[zn hd (by simp) w]
     simp only[Result.andThen,Sem.run_bind,Sem.run_pure,zn hd (by simp) w,if_pos (And.intro c1 c2),QH c3 w,za5]
    ·simp only[vr];exact⟨_,rfl,hr0,hfm,by rw[Nat.add_assoc]⟩
   ·cases h
  ·cases h
 |_=> cases h
theorem zQC {t:TypeId} {f:Nat} {fd:Field} (hf:ZFc P t f=some fd) (hz:ZmI P fd.type≠0) {p v:V} {x:Value} (hx:vr g.I (g.at get n) p x) (h:ZmN p fd.offset=some v) (w:World):
 ∃y,(Instr.fieldAt t x f).run P w=.ok y w∧vr g.I (g.at get n) v y:=by
 obtain⟨b,o,rfl,hv⟩:=zDi hx h
 refine⟨_,?_,hv⟩
 unfold ZFc at hf
 cases hd:und P t with
 |struct fs=>
  simp only[hd] at hf
  have hf':fs[f]?=some fd:=by simpa using hf
  have hok:okT P fd.type=true:=by
   unfold ZmI at hz;unfold okT
   cases hi:P.info? fd.type with
   |none=> simp[hi] at hz
   |some i=> rfl
  unfold Instr.fieldAt
  rw[Sem.run_bind,zn hd (by simp) w]
  simp only[Result.andThen,hf',Instr.sureAddr,Sem.run_bind,Sem.run_pure]
  unfold fieldPlace
  simp only[Sem.run_bind,QH hok w,Result.andThen,if_neg hz,Sem.run_pure,za5]
 |_=> simp[hd] at hf
theorem zQD {t:TypeId} {f:Nat} {fd:Field} (hf:ZFc P t f=some fd) {v:V} {cs:List V} {x:Value} {I:Imm} {A:At} (hx:vr I A (.agg cs) x) (h:ZCC P fd.type (cs.drop fd.offset)=some v) (w:World):
 ∃y,(Instr.field t x f).run P w=.ok y w∧vr I A v y:=by
 simp only[vr] at hx
 obtain⟨ys,rfl,hl⟩:=hx
 obtain⟨y,hy,hv⟩:=zyt hl h w
 refine⟨y,?_,hv⟩
 unfold ZFc at hf
 cases hd:und P t with
 |struct fs=>
  simp only[hd] at hf
  have hf':fs[f]?=some fd:=by simpa using hf
  unfold Instr.field
  rw[Sem.run_bind,zn hd (by simp) w]
  simp only[Result.andThen,hf',asAgg,Sem.run_bind,Sem.run_pure,hy]
 |_=> simp[hd] at hf
end
end
section
variable {P:Program}
theorem zkH (a:ByteArray):a.toList=a.data.toList:=ByteArray.toList_eq ..
set_option maxHeartbeats 1000000 in
theorem zwN {I:Imm} {A:At}:∀(d:Nat) {t:TypeId} {x y:V} {x' y':Value} {b:Bool},vr I A x x'→vr I A y y'→eqV P d t x y=some b→∀D,d≤D→∀w,(Op.equalIn D t x' y').run P w=.ok b w
 |0,t,x,y,x',y',b,_,_,h,_,_,_=> by cases h
 |d+1,t,x,y,x',y',b,hx,hy,h,0,hD,w=> by omega
 |d+1,t,x,y,x',y',b,hx,hy,h,D+1,hD,w=> by
  have ih:=@zwN I A d
  unfold eqV at h
  split at h
  ·rename_i a a' hd
   simp only[vr] at hx hy;subst hx hy;obtain rfl:=Option.some.inj h
   (simp only[Op.equalIn,Sem.run_bind,zn hd (by simp),Result.andThen,Sem.run_pure];try rfl)
  ·rename_i hd
   simp only[vr] at hx hy;subst hx hy
   split at h
   ·rename_i hk;subst hk
    obtain rfl:=Option.some.inj h
    (simp only[Op.equalIn,Sem.run_bind,zn hd (by simp),Result.andThen,Sem.run_pure];try rfl)
   ·cases h
  ·rename_i hd
   simp only[vr] at hx hy;subst hx hy;obtain rfl:=Option.some.inj h
   simp only[Op.equalIn,Sem.run_bind,zn hd (by simp),Result.andThen,Sem.run_pure]
   rw[beq_toListBytes,zkH,zkH]
  ·rename_i hd
   simp only[vr] at hx hy;subst hx hy;obtain rfl:=Option.some.inj h
   (simp only[Op.equalIn,Sem.run_bind,zn hd (by simp),Result.andThen,Sem.run_pure];try rfl)
  ·rename_i hd
   simp only[vr] at hx hy;obtain⟨a,rfl,_⟩:=hy;subst hx;obtain rfl:=Option.some.inj h
   (simp only[Op.equalIn,Sem.run_bind,zn hd (by simp),Result.andThen,Sem.run_pure];try rfl)
  ·rename_i hd
   simp only[vr] at hx hy;obtain⟨a,rfl,_⟩:=hx;subst hy;obtain rfl:=Option.some.inj h
   (simp only[Op.equalIn,Sem.run_bind,zn hd (by simp),Result.andThen,Sem.run_pure];try rfl)
  ·rename_i hd
   simp only[vr] at hx hy;obtain⟨b',o',rfl,_⟩:=hy;subst hx;obtain rfl:=Option.some.inj h
   (simp only[Op.equalIn,Sem.run_bind,zn hd (by simp),Result.andThen,Sem.run_pure];try rfl)
  ·rename_i hd
   simp only[vr] at hx hy;obtain⟨b',o',rfl,_⟩:=hx;subst hy;obtain rfl:=Option.some.inj h
   (simp only[Op.equalIn,Sem.run_bind,zn hd (by simp),Result.andThen,Sem.run_pure];try rfl)
  ·rename_i hd
   simp only[vr] at hx hy;subst hx hy;obtain rfl:=Option.some.inj h
   (simp only[Op.equalIn,Sem.run_bind,zn hd (by simp),Result.andThen,Sem.run_pure];try rfl)
  ·rename_i hd
   simp only[vr] at hx hy;obtain⟨z,rfl,_⟩:=hy;subst hx;obtain rfl:=Option.some.inj h
   (simp only[Op.equalIn,Sem.run_bind,zn hd (by simp),Result.andThen,Sem.run_pure];try rfl)
  ·rename_i hd
   simp only[vr] at hx hy;obtain⟨z,rfl,_⟩:=hx;subst hy;obtain rfl:=Option.some.inj h
   (simp only[Op.equalIn,Sem.run_bind,zn hd (by simp),Result.andThen,Sem.run_pure];try rfl)
  ·rename_i fs xs ys hd
   split at h
   ·cases h
   ·rename_i hst
    simp only[vr] at hx hy
    obtain⟨xa,rfl,hxl⟩:=hx
    obtain⟨ya,rfl,hyl⟩:=hy
    have hfo:P.fieldsOf t=fs:=by simp[Program.fieldsOf,zwu hd]
    rw[run_equalIn_struct w D t xa ya (by rw[hfo];exact zwu hd (by simp)) (by simpa using hst),hfo]
    clear hd hfo hst
    generalize fs.toList=l at h
    induction l generalizing b w with
    |nil=> obtain rfl:=Option.some.inj h;simp[Op.eqFields]
    |cons f l ihl=>
     simp only[List.foldr_cons] at h
     unfold Op.eqFields
     by_cases hn:f.name≠ "_"
     ·rw[if_pos hn] at h⊢
      cases h1:ZCC P f.type (xs.drop f.offset) with
      |none=> simp[h1] at h
      |some a=>
       cases h2:ZCC P f.type (ys.drop f.offset) with
       |none=> simp[h1,h2] at h
       |some c=>
        simp only[h1,h2] at h
        obtain⟨ax,ha,hav⟩:=zyt (P:=P) hxl h1 w
        obtain⟨cx,hc,hcv⟩:=zyt (P:=P) hyl h2 w
        cases h3:eqV P d f.type a c with
        |none=> simp[h3] at h
        |some r=>
         have hr:=ih hav hcv h3 D (by omega) w
         simp only[Sem.run_bind,ha,hc,hr,Result.andThen]
         cases r with
         |true=> simp only[h3] at h;simpa using ihl _ w h
         |false=> simp only[h3] at h;obtain rfl:=Option.some.inj h;simp
     ·rw[if_neg hn] at h⊢
      exact ihl _ w h
  ·rename_i hd
   simp only[vr] at hx hy;subst hx hy;obtain rfl:=Option.some.inj h
   (simp only[Op.equalIn,Sem.run_bind,zn hd (by simp),Result.andThen,Sem.run_pure];try rfl)
  ·rename_i hd
   simp only[vr] at hx hy;obtain⟨b',o',cap,rfl,_⟩:=hy;subst hx;obtain rfl:=Option.some.inj h
   (simp only[Op.equalIn,Sem.run_bind,zn hd (by simp),Result.andThen,Sem.run_pure];try rfl)
  ·rename_i hd
   simp only[vr] at hx hy;obtain⟨a,c,rfl,_⟩:=hy;subst hx;obtain rfl:=Option.some.inj h
   (simp only[Op.equalIn,Sem.run_bind,zn hd (by simp),Result.andThen,Sem.run_pure];try rfl)
  ·rename_i hd
   simp only[vr] at hx hy;obtain⟨b',o',cap,rfl,_⟩:=hx;subst hy;obtain rfl:=Option.some.inj h
   (simp only[Op.equalIn,Sem.run_bind,zn hd (by simp),Result.andThen,Sem.run_pure];try rfl)
  ·rename_i hd
   simp only[vr] at hx hy;obtain⟨a,c,rfl,_⟩:=hx;subst hy;obtain rfl:=Option.some.inj h
   (simp only[Op.equalIn,Sem.run_bind,zn hd (by simp),Result.andThen,Sem.run_pure];try rfl)
  ·rename_i hd
   simp only[vr] at hx hy;subst hx hy;obtain rfl:=Option.some.inj h
   (simp only[Op.equalIn,Sem.run_bind,zn hd (by simp),Result.andThen,Sem.run_pure];try rfl)
  ·rename_i hd
   simp only[vr] at hx hy;obtain⟨a,rfl,_⟩:=hy;subst hx;obtain rfl:=Option.some.inj h
   (simp only[Op.equalIn,Sem.run_bind,zn hd (by simp),Result.andThen,Sem.run_pure];try rfl)
  ·rename_i hd
   simp only[vr] at hx hy;obtain⟨a,rfl,_⟩:=hx;subst hy;obtain rfl:=Option.some.inj h
   (simp only[Op.equalIn,Sem.run_bind,zn hd (by simp),Result.andThen,Sem.run_pure];try rfl)
  ·rename_i hd
   simp only[vr] at hx hy;subst hx hy;obtain rfl:=Option.some.inj h
   (simp only[Op.equalIn,Sem.run_bind,zn hd (by simp),Result.andThen,Sem.run_pure];try rfl)
  ·rename_i hd
   simp only[vr] at hx hy;obtain⟨f',a',c',rfl,_⟩:=hy;subst hx;obtain rfl:=Option.some.inj h
   (simp only[Op.equalIn,Sem.run_bind,zn hd (by simp),Result.andThen,Sem.run_pure];try rfl)
  ·rename_i hd
   simp only[vr] at hx hy;obtain⟨f',a',c',rfl,_⟩:=hx;subst hy;obtain rfl:=Option.some.inj h
   (simp only[Op.equalIn,Sem.run_bind,zn hd (by simp),Result.andThen,Sem.run_pure];try rfl)
  ·cases h
theorem zRc {op:BinOp} {k k':IntKind} {a b:Int} {v:V} (h:ZmK op k a k' b=some v) (I:Imm) (A:At) (t:TypeId) (w:World):∃y,(binOp op t (.int k a) (.int k' b)).run P w=.ok y w∧vr I A v y:=by
 unfold ZmK at h
 cases op <;> simp only at h <;> (try (cases h;done)) <;> (split at h) <;> (try (cases h;done)) <;> rename_i hc <;> obtain rfl:=Option.some.inj h <;> refine⟨_,?_,by simp only[vr];rfl⟩
 case add=> subst hc;simp[binOp,Op.intArith]
 case sub=> subst hc;simp[binOp,Op.intArith]
 case mul=> subst hc;simp[binOp,Op.intArith]
 case quo=> obtain⟨rfl,hb⟩:=hc;simp[binOp,Op.intDiv,hb]
 case rem=> obtain⟨rfl,hb⟩:=hc;simp[binOp,Op.intDiv,hb]
 case shl=> simp[binOp,Op.shift,hc]
 case shr=> simp[binOp,Op.shift,hc]
 case eql=> subst hc;simp[binOp,Op.intCmp]
 case neq=> subst hc;simp[binOp,Op.intCmp]
 case lss=> subst hc;simp[binOp,Op.intCmp]
 case leq=> subst hc;simp[binOp,Op.intCmp]
 case gtr=> subst hc;simp[binOp,Op.intCmp]
 case geq=> subst hc;simp[binOp,Op.intCmp]
theorem zY2 {op:BinOp} {a b:ByteArray} {v:V} (h:ZF5 op a b=some v) (I:Imm) (A:At) (t:TypeId) (w:World):∃y,(binOp op t (.string a) (.string b)).run P w=.ok y w∧vr I A v y:=by
 unfold ZF5 at h
 cases op <;> simp only at h <;> (try (cases h;done))
 case add=>
  split at h
  ·cases h
  ·rename_i hc
   obtain rfl:=Option.some.inj h
   exact⟨.string (a++b),by simp only[binOp,Op.stringOp];rw[if_neg hc];rfl,by simp[vr]⟩
 all_goals
  obtain rfl:=Option.some.inj h
  refine⟨_,?_,by simp only[vr];rfl⟩
  simp[binOp,Op.stringOp,zkH]
end
end
end Go.Ae
end
