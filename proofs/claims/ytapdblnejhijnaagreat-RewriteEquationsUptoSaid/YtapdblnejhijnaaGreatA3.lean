/- The abstract evaluator: operations, appending. -/
import Derived.Test.YtapdblnejhijnaaGreatA2
import Derived.IntWalk
set_option linter.all false
noncomputable section
namespace Go.Ae
section
section
variable {P:Program}
theorem zO1 {I:Imm} {A:At} {v:V} (h:vr I A v .nilIface):v=.nilif:=by
 cases v <;> simp[vr] at h⊢
theorem zDa {I:Imm} {A:At} {v:V} {xs:Array Value} (h:vr I A v (.agg xs)):∃cs,v=.agg cs:=by
 cases v <;> simp[vr] at h⊢
theorem zRg {α:Type} {c:Prop} [Decidable c] {x y:Sem α} {w:World} {r:Result α} (hx:x.run P w=r) (hy:y.run P w=r):(if c then x else y).run P w=r:=by
 split
 ·exact hx
 ·exact hy
theorem zyU {I:Imm} {A:At} {op:BinOp} {t:TypeId} {x y:Operand} {a b:V} {a' b':Value} (ha:vr I A a a') (hb:vr I A b b') {cx cy:Bool} (hcx:cx=true→∃v,x=.const v) (hcy:cy=true→∃v,y=.const v) (hg:ZGG P t cx cy a b=true) (w:World):
 (eqGuard op t x y a' b').run P w=.ok () w:=by
 unfold eqGuard
 refine zRg rfl ?_
 ·unfold ZGG at hg
  split at hg
  ·simp only[vr] at ha hb;subst ha hb
   rw[Bool.or_eq_true] at hg
   rcases hg with hg|hg
   ·obtain⟨v,rfl⟩:=hcx hg;simp
   ·obtain⟨v,rfl⟩:=hcy hg;simp
  ·simp only[vr] at ha hb
   obtain⟨xa,rfl,_⟩:=ha
   obtain⟨ya,rfl,_⟩:=hb
   simp only[Sem.run_bind,run_program,Result.andThen,hg,if_true,Sem.run_pure]
  ·rename_i h1 h2
   split
   ·exact(h1 (zO1 ha) (zO1 hb)).elim
   ·obtain⟨cs,e1⟩:=zDa ha
    obtain⟨ds,e2⟩:=zDa hb
    exact(h2 cs ds e1 e2).elim
   ·rfl
theorem zO0 {I:Imm} {A:At} {v:V} {k:FloatKind} {b:Nat} (h:vr I A v (.float k b)):False:=by
 cases v <;> simp[vr] at h
theorem zOZ {I:Imm} {A:At} {v:V} {k:FloatKind} {b c:Nat} (h:vr I A v (.complex k b c)):False:=by
 cases v <;> simp[vr] at h
theorem zkt {I:Imm} {A:At} {v:V} {k:IntKind} {n:Int} (h:vr I A v (.int k n)):v=.int k n:=by
 cases v <;> simp[vr] at h⊢
 exact⟨h.1.symm,h.2.symm⟩
theorem zkw {I:Imm} {A:At} {v:V} {s:ByteArray} (h:vr I A v (.string s)):v=.str s:=by
 cases v <;> simp[vr] at h⊢
 exact h.symm
theorem zPz {I:Imm} {A:At} {t:TypeId} {a b:V} {a' b':Value} (ha:vr I A a a') (hb:vr I A b b') (h1:∀k x k' y,a=.int k x→b=.int k' y→False) (h2:∀x y,a=.str x→b=.str y→False):
 binOp .eql t a' b'=(do pure (.bool (←Op.equal t a' b'))):=by
 unfold binOp
 split <;> first|rfl|(rename_i h;cases h;done)|skip
 all_goals first
  |exact(h1 _ _ _ _ (zkt ha) (zkt hb)).elim
  |exact(zO0 ha).elim
  |exact(zOZ ha).elim
  |exact(h2 _ _ (zkw ha) (zkw hb)).elim
  |(simp_all;done)
theorem zPA {I:Imm} {A:At} {t:TypeId} {a b:V} {a' b':Value} (ha:vr I A a a') (hb:vr I A b b') (h1:∀k x k' y,a=.int k x→b=.int k' y→False) (h2:∀x y,a=.str x→b=.str y→False):
 binOp .neq t a' b'=(do pure (.bool (!(←Op.equal t a' b')))):=by
 unfold binOp
 split <;> first|rfl|(rename_i h;cases h;done)|skip
 all_goals first
  |exact(h1 _ _ _ _ (zkt ha) (zkt hb)).elim
  |exact(zO0 ha).elim
  |exact(zOZ ha).elim
  |exact(h2 _ _ (zkw ha) (zkw hb)).elim
  |(simp_all;done)
theorem zDr {I:Imm} {A:At} {op:BinOp} {t:TypeId} {x y:Operand} {a b:V} {a' b':Value} (ha:vr I A a a') (hb:vr I A b b') {cx cy:Bool} (hcx:cx=true→∃v,x=.const v) (hcy:cy=true→∃v,y=.const v)
 {v:V} (h:ZmJ P op t cx cy a b=some v) (w:World):∃z,(do eqGuard op t x y a' b';binOp op t a' b':Sem Value).run P w=.ok z w∧vr I A v z:=by
 unfold ZmJ at h
 split at h
 ·have ha':=ha
  have hb':=hb
  simp only[vr] at ha' hb';subst ha' hb'
  obtain⟨z,hz,hv⟩:=zRc (P:=P) h I A t w
  refine⟨z,?_,hv⟩
  rw[Sem.run_bind,zyU (P:=P) ha hb hcx hcy rfl w]
  exact hz
 ·have ha':=ha
  have hb':=hb
  simp only[vr] at ha' hb';subst ha' hb'
  obtain⟨z,hz,hv⟩:=zY2 (P:=P) h I A t w
  refine⟨z,?_,hv⟩
  rw[Sem.run_bind,zyU (P:=P) ha hb hcx hcy rfl w]
  exact hz
 ·rename_i h1 h2
  split at h
  ·rename_i hg
   rw[Sem.run_bind,zyU (P:=P) ha hb hcx hcy hg w]
   simp only[Result.andThen]
   cases op <;> simp only at h <;> (try (cases h;done))
   case eql=>
    cases he:eqV P 100 t a b with
    |none=> rw[he] at h;cases h
    |some r=>
     rw[he] at h;obtain rfl:=Option.some.inj h
     have:=zwN (P:=P) 100 ha hb he Op.maxDepth (by decide) w
     refine⟨.bool r,?_,by simp[vr]⟩
     rw[zPz ha hb h1 h2,Sem.run_bind]
     unfold Op.equal
     rw[this];rfl
   case neq=>
    cases he:eqV P 100 t a b with
    |none=> rw[he] at h;cases h
    |some r=>
     rw[he] at h;obtain rfl:=Option.some.inj h
     have:=zwN (P:=P) 100 ha hb he Op.maxDepth (by decide) w
     refine⟨.bool !r,?_,by simp[vr]⟩
     rw[zPA ha hb h1 h2,Sem.run_bind]
     unfold Op.equal
     rw[this];rfl
  ·cases h
end
section
variable {P:Program}
section
variable {g:G} {get:Nat→Blk} {n:Nat} {w:World}
theorem zaf (h:WR g get n w) {b:Nat} (hb:w.heap.size≤b) (o:Nat):g.I b o=none:=by
 cases hx:g.I b o with
 |none=> rfl
 |some x=>
  have:=h.imm b o x hx
  unfold World.cell? at this
  rw[Array.getElem?_eq_none hb] at this
  cases this
theorem zye (h:WR g get n w) {nid:Nat} (hf:ZDc get n nid) {cs:List V} {c:Array Value} (hc:vrl g.I (g.at get n) cs c.toList) (el:TypeId):
 WR (g.put nid w.heap.size 0 c.size) (upd get nid (.row 0 cs)) (max n (nid+1)) (w.alloc (.cells c el))∧Ext g get n w (g.put nid w.heap.size 0 c.size) (upd get nid (.row 0 cs)) (max n (nid+1)) (w.alloc (.cells c el)):=by
 refine h.new hf _ _ _ _ fun e=> ?_
 have h1:(g.put nid w.heap.size 0 c.size).mu nid=w.heap.size:=if_pos rfl
 have h2:(g.put nid w.heap.size 0 c.size).base nid=0:=if_pos rfl
 have h3:(g.put nid w.heap.size 0 c.size).ts nid=c.size:=if_pos rfl
 have hl:c.size=cs.length:=by rw[←Array.length_toList];exact Zg hc
 refine⟨c,el,by rw[h1];exact zaY _ _,h3.symm,by rw[h2];omega,fun i v hv=> ?_,fun o _=> by rw[h1];exact zaf h (Nat.le_refl _) o⟩
 obtain⟨x,hx,hvr⟩:=zab hc hv
 exact⟨x,by rw[h2,Nat.zero_add];simpa using hx,e.vr hvr⟩
theorem zwA {nid:Nat} (m t:Nat) (b:Blk) (hb:b.firm=true):((g.put nid m 0 t).at (upd get nid b) (max n (nid+1))).ptr nid 0 ⟨m,0,none⟩:=
 ⟨by omega,by rw[zG];exact hb,by simp[G.put]⟩
theorem zjh (el:TypeId) (c:Array Value) (w:World):(newRow el c).run P w=.ok ⟨w.heap.size,0,none⟩ (w.alloc (.cells c el)):=by
 unfold newRow newObj
 rw[Sem.run_bind]
 rfl
theorem zPq (h:WR g get n w) {nid:Nat} (hf:ZDc get n nid) {o:Oper} {a:Act} {t:TypeId} (ho:o.op=.alloc t) {z:V} (hz:zeroOf P t=some z):
 ZDn P o a g get n w nid {v:=.ptr nid 0,nw:=[.row 0 z.cells]}:=by
 obtain⟨x,hx,hv⟩:=zws hz w
 obtain⟨h1,h2⟩:=zye h hf (zks (hv g.I (g.at get n))) t
 refine⟨.pointer (some ⟨w.heap.size,0,none⟩),w.alloc (.cells x.cells t),_,.inl (zaU (s:=Instr.alloc t true (.tuple #[])) (by simp only[execOp,ho]) ?_),h1,h2,?_⟩
 ·unfold Instr.alloc
  rw[Sem.run_bind,hx]
  simp only[Result.andThen,Sem.run_bind,newVar,zjh,Sem.run_pure]
 ·simp only[vr];exact⟨_,rfl,zwA _ _ _ rfl⟩
theorem zPE (h:WR g get n w) {nid:Nat} (hf:ZDc get n nid) {o:Oper} {a:Act} {t:TypeId} {x:Operand} (ho:o.op=.box t x) {v:V} (hv:vr g.I (g.at get n) v (a.eval x)):
 ZDn P o a g get n w nid {v:=.ptr nid 0,nw:=[.row 0 v.cells]}:=by
 obtain⟨h1,h2⟩:=zye h hf (zks hv) t
 refine⟨.pointer (some ⟨w.heap.size,0,none⟩),w.alloc (.cells (a.eval x).cells t),_,.inl (zaU (s:=Instr.box t (a.eval x)) (by simp only[execOp,ho]) ?_),h1,h2,?_⟩
 ·unfold Instr.box
  simp only[Sem.run_bind,newVar,zjh,Result.andThen,Sem.run_pure]
 ·simp only[vr];exact⟨_,rfl,zwA _ _ _ rfl⟩
theorem zXf (h:WR g get n w) {nid:Nat} {o:Oper} {a:Act} {t:TypeId} {x:Operand} (ho:o.op=.load t x) {p:V} (hp:vr g.I (g.at get n) p (a.eval x)) {e:Eff} (he:Zi3 P t get p=some e):
 ZDn P o a g get n w nid e:=by
 unfold Zi3 at he
 have key:∀{b off:Nat} {A:At} {cs:List V} {xs:List Value} {v:V} {rs:List Nat},a.eval x=.pointer (some ⟨b,off,none⟩)→vrl g.I A cs xs→Holds w b off xs→ZCC P t cs=some v→A.le (g.at get n)→ZDn P o a g get n w nid {v,rd:=rs}:=by
  intro b off A cs xs v rs hx hc hh hl hA
  obtain⟨y,hy,hv⟩:=zOw (P:=P) hc hh hl
  refine zad h (zaU (s:=Instr.loadAt t (a.eval x)) (by simp only[execOp,ho]) ?_) (Qv (Imm.le_refl _) hA hv)
  unfold Instr.loadAt
  simp only[hx,Instr.sureAddr,Sem.run_bind,Sem.run_pure,Result.andThen,hy]
 cases p with
 |iptr cs=>
  simp only[vr] at hp
  obtain⟨b,off,hx,hra⟩:=hp
  obtain⟨v,hl,rfl⟩:=QI he
  obtain⟨xs,h1,h2⟩:=zzb h.imm hra
  exact key hx h1 h2 hl (At.bot_le _)
 |ptr r off=>
  simp only[vr] at hp
  obtain⟨ad,hx,hr,hfm,rfl⟩:=hp
  simp only at he
  cases hg:get r with
  |row k cs=>
   simp only[hg] at he
   split at he
   ·cases hl:ZCC P t (cs.drop off) with
    |none=> simp[hl] at he
    |some v=>
     simp only[hl] at he
     obtain rfl:=Option.some.inj he
     obtain⟨c,el,xs,h1,h2,h3,h4,h5,h6,h7⟩:=zkm h hr hg
     exact key hx (zb0 h4 off) (h6.drop off) hl (At.le_refl _)
   ·cases he
  |_=> simp[hg] at he
 |_=> cases he
theorem zyi {I:Imm} {A:At}:∀{vs:List V} {xs:List Value},V.ones vs=true→vrl I A vs xs→∀x∈xs,x.oneCell'=true
 |[],xs,_,h,x,hx=> by simp[vrl] at h;subst h;cases hx
 |v::vs,xs,h1,h,x,hx=> by
  simp only[V.ones,Bool.and_eq_true] at h1
  simp only[vrl] at h
  obtain⟨y,ys,rfl,hv,hl⟩:=h
  rcases List.mem_cons.1 hx with rfl|hx
  ·cases x with
   |agg cs=> obtain⟨cs',rfl⟩:=zDa hv;simp[V.one] at h1
   |tuple cs=> cases v <;> simp[vr] at hv;simp[V.one] at h1
   |_=> rfl
  ·exact zyi h1.2 hl x hx
theorem zC0 (w:World) (b:Nat) {c:Array Value} {el:TypeId} (hc:w.heap[b]?=some (.cells c el (0,0))) (c':Array Value):(w.setRow b c').heap=w.heap.setIfInBounds b (.cells c' el (0,0)):=by
 apply Array.ext_getElem?
 intro j
 by_cases hj:j=b
 ·subst hj
  rw[setRow_heap w j c c' el (0,0) hc,Array.getElem?_setIfInBounds_self_of_lt (QG hc)]
 ·rw[Array.getElem?_setIfInBounds_ne (Ne.symm hj)]
  show(w.heap.modify b _)[j]?=_
  rw[Array.getElem?_modify,if_neg (Ne.symm hj)]
theorem zPa (h:WR g get n w) {r k:Nat} {cs new cs':List V} {off:Nat} (hr:r < n) (hg:get r=.row k cs) (hk:k≤off) {ys:List Value} (hy:vrl g.I (g.at get n) new ys) (hone:V.ones new=true) (hs:splice cs new off=some cs'):
 ∃w',(storeCells ⟨g.mu r,g.base r+off,none⟩ ys).run P w=.ok () w'∧WR g (upd get r (.row k cs')) n w'∧Ext g get n w g (upd get r (.row k cs')) n w':=by
 obtain⟨c,el,xs,h1,h2,h3,h4,h5,h6,h7⟩:=zkm h hr hg
 obtain⟨hle,hsp⟩:=zO4 h4 hy hs
 have hyl:ys.length=new.length:=Zg hy
 have hsl:cs'.length=cs.length:=by
  unfold splice at hs
  rw[if_pos hle] at hs
  obtain rfl:=Option.some.inj hs
  simp only[List.length_append,List.length_take,List.length_drop]
  omega
 have hcl:c.toList.length=c.size:=Array.length_toList
 have hst:=run_storeCells_at (P:=P) (g.mu r) (g.base r+off) el ys 0 c w h1 (by rw[Nat.add_zero];omega) (zyi hone hy)
 simp only[Nat.add_zero] at hst
 refine⟨_,hst,h.set_row hr hg h1 ?_ (zC0 w _ h1 _) rfl rfl rfl ?_ ?_ ?_⟩
 ·simp only[List.size_toArray,List.length_append,List.length_take,List.length_drop];omega
 ·intro o ho
  have:o < g.base r+off:=by omega
  simp only[List.getElem?_toArray]
  rw[List.append_assoc,List.getElem?_append,if_pos (by simp only[List.length_take];omega),List.getElem?_take,if_pos this]
  simp
 ·omega
 ·intro i v hv
  obtain⟨x,hx,hvr⟩:=zab hsp hv
  refine⟨x,?_,hvr⟩
  have hi:i < cs'.length:=(List.getElem?_eq_some_iff.1 hv).1
  subst h5
  simp only[List.getElem?_toArray]
  have htl:((c.toList.drop (g.base r)).take cs.length).length=cs.length:=by simp only[List.length_take,List.length_drop];omega
  rw[List.append_assoc,List.getElem?_append] at hx
  rw[List.append_assoc,List.getElem?_append]
  have e1:((c.toList.drop (g.base r)).take cs.length|>.take off).length=off:=by simp only[List.length_take,List.length_drop];omega
  have e2:(c.toList.take (g.base r+off)).length=g.base r+off:=by simp only[List.length_take];omega
  rw[e1] at hx
  rw[e2]
  by_cases hio:i < off
  ·rw[if_pos hio] at hx
   rw[if_pos (by omega),List.getElem?_take,if_pos (by omega)]
   rw[List.getElem?_take,if_pos hio,List.getElem?_take,if_pos (by omega),List.getElem?_drop] at hx
   exact hx
  ·rw[if_neg hio] at hx
   rw[if_neg (by omega),show g.base r+i - (g.base r+off)=i - off by omega]
   rw[List.getElem?_append] at hx⊢
   by_cases hin:i - off < ys.length
   ·rw[if_pos hin] at hx⊢;exact hx
   ·rw[if_neg hin] at hx⊢
    rw[List.getElem?_drop,List.getElem?_take,if_pos (by omega),List.getElem?_drop] at hx
    rw[List.getElem?_drop]
    rw[show g.base r+off+ys.length+(i - off - ys.length)=g.base r+(off+ys.length+(i - off - ys.length)) by omega]
    exact hx
theorem zY1 (h:WR g get n w) {nid:Nat} {o:Oper} {a:Act} {t:TypeId} {x y:Operand} (ho:o.op=.store t x y) {p u:V} (hp:vr g.I (g.at get n) p (a.eval x)) (hu:vr g.I (g.at get n) u (a.eval y)) (hok:okT P t=true) {e:Eff} (he:ZnB P t get p u=some e):
 ZDn P o a g get n w nid e:=by
 unfold ZnB at he
 cases p with
 |ptr r off=>
  simp only[vr] at hp
  obtain⟨ad,hx,hr,hfm,rfl⟩:=hp
  simp only at he
  cases hg:get r with
  |row k cs=>
   simp only[hg] at he
   split at he
   ·rename_i hc
    obtain⟨hk,hsz,hone⟩:=hc
    cases hs:splice cs u.cells off with
    |none=> simp[hs] at he
    |some cs'=>
     simp only[hs] at he
     obtain rfl:=Option.some.inj he
     have hcell:=zks hu
     obtain⟨w',hrun,hW,hE⟩:=zPa (P:=P) h hr hg hk hcell hone hs
     refine⟨undef,w',g,.inr ⟨zCY (s:=Instr.storeAt t (a.eval x) (a.eval y)) (by simp only[execOp,ho]) ?_,rfl⟩,hW,hE,zjm⟩
     unfold Instr.storeAt
     simp only[hx,Instr.sureAddr,Sem.run_bind,Sem.run_pure,Result.andThen]
     unfold storeVar
     have hl:(a.eval y).cells.size=ZmI P t:=by rw[←Array.length_toList,Zg hcell];exact hsz
     simp only[Sem.run_bind,QH hok w,Result.andThen,hl,ne_eq,not_true_eq_false,if_false]
     exact hrun
   ·cases he
  |_=> simp[hg] at he
 |_=> cases he
end
end
section
variable {P:Program}
theorem zCU (z:List V):∀n,(ZDw z n).length=n * z.length
 |0=> by simp[ZDw]
 |n+1=> by simp[ZDw,zCU z n,Nat.succ_mul,Nat.add_comm]
theorem zOn (z:List V):∀(n i:Nat),i < n * z.length→(ZDw z n)[i]?=z[i % z.length]?
 |0,i,h=> by simp at h
 |n+1,i,h=> by
  simp only[ZDw,List.getElem?_append]
  by_cases hi:i < z.length
  ·rw[if_pos hi,Nat.mod_eq_of_lt hi]
  ·rw[if_neg hi,zOn z n (i - z.length) (by rw[Nat.succ_mul] at h;omega),←Nat.mod_eq_sub_mod (by omega)]
theorem zYw {I:Imm} {A:At} {zs:List V} {zx:Array Value} (h:vrl I A zs zx.toList) (n:Nat):vrl I A (ZDw zs n) ((Array.range (n * zs.length)).map (fun i=> zx[i % zx.size]!)).toList:=by
 have hl:zx.size=zs.length:=by rw[←Array.length_toList];exact Zg h
 refine zky (by simp[zCU]) fun i v hv=> ?_
 have hi:i < n * zs.length:=by rw[←zCU];exact(List.getElem?_eq_some_iff.1 hv).1
 rw[zOn zs n i hi] at hv
 obtain⟨x,hx,hvr⟩:=zab h hv
 refine⟨x,?_,hvr⟩
 have hpos:0 < zs.length:=by
  rcases Nat.eq_zero_or_pos zs.length with h0|h0
  ·rw[h0] at hi;simp at hi
  ·exact h0
 have hlt:i % zx.size < zx.size:=by rw[hl];exact Nat.mod_lt _ hpos
 have hx':zx[i % zx.size]?=some x:=by rw[hl];simpa using hx
 have:zx[i % zx.size]! =x:=by
  rw[getElem!_pos zx (i % zx.size) hlt]
  rw[Array.getElem?_eq_getElem hlt] at hx'
  exact Option.some.inj hx'
 simp[hi,this]
section
variable {g:G} {get:Nat→Blk} {n:Nat} {w:World}
theorem zPb {I:Imm} {A:At} {e:TypeId} {m:Nat} {zs:List V} (h:(if m * ZmI P e=0 then some [] else (zeroOf P e).bind fun z=> if z.cells.length=ZmI P e then some (ZDw z.cells m) else none)=some zs) (w:World):
 ∃zero:Array Value,((m * ZmI P e=0∧zero=#[])∨(m * ZmI P e≠0∧∃x,(zeroValue e).run P w=.ok x w∧zero=x.cells))∧vrl I A zs ((Array.range (m * ZmI P e)).map (fun i=> zero[i % zero.size]!)).toList:=by
 by_cases h0:m * ZmI P e=0
 ·rw[if_pos h0] at h
  obtain rfl:=Option.some.inj h
  exact⟨#[],.inl ⟨h0,rfl⟩,by rw[h0];simp[vrl]⟩
 ·rw[if_neg h0] at h
  cases hz:zeroOf P e with
  |none=> rw[hz] at h;cases h
  |some z=>
   rw[hz] at h
   simp only[Option.bind_some] at h
   split at h
   ·rename_i hl
    obtain rfl:=Option.some.inj h
    obtain⟨x,hx,hv⟩:=zws hz w
    refine⟨x.cells,.inr ⟨h0,x,hx,rfl⟩,?_⟩
    ·have:=zYw (zks (hv I A)) m
     rw[hl] at this
     exact this
   ·cases h
theorem zXc {I:Imm} {A:At} {t:TypeId} {len:Nat} {vs:List (Nat×V)} {xs:Array (Nat×Value)} (h1:xs.toList.map (·.1)=vs.map (·.1)) (h2:vrl I A (vs.map (·.2)) (xs.toList.map (·.2))) {cs:List V} {sz:Nat} (h:ZE1 P t len vs=some (cs,sz)) (w:World):
 ∃e c,und P t=.slice e∧sz=ZmI P e∧vrl I A cs c.toList∧cs.length=len * sz∧(Instr.buildSlice t len xs).run P w=.ok (.slice (some ⟨w.heap.size,0,none⟩) len len) (w.alloc (.cells c e)):=by
 unfold ZE1 at h
 cases hd:und P t with
 |slice e=>
  simp only[hd] at h
  split at h
  ·rename_i hc
   obtain⟨hle,hok⟩:=hc
   cases hzs:(if len * ZmI P e=0 then some [] else (zeroOf P e).bind fun z=> if z.cells.length=ZmI P e then some (ZDw z.cells len) else none) with
   |none=> rw[hzs] at h;cases h
   |some zs=>
    rw[hzs] at h
    obtain⟨zero,hz1,hz2⟩:=zPb (I:=I) (A:=A) hzs w
    simp only at h
    cases hf:ZDJ (fun i=> some (i * ZmI P e,ZmI P e)) zs vs with
    |none=> rw[hf] at h;cases h
    |some cs'=>
     rw[hf] at h
     have h':cs'=cs∧ZmI P e=sz:=by simpa using h
     obtain⟨rfl,rfl⟩:=h'
     obtain⟨out,e1,e2⟩:=zwQ h1 h2 hz2 hf
     have hlen:cs'.length=len * ZmI P e:=by
      have:=zDT hf
      rw[this,←Zg hz2];simp
     refine⟨e,out,rfl,rfl,e2,hlen,?_⟩
     unfold Instr.buildSlice
     rw[Sem.run_bind,zn hd (by simp) w]
     simp only[Result.andThen,Sem.run_bind,QH hok w]
     rw[if_neg (by omega)]
     rcases hz1 with ⟨h0,rfl⟩|⟨h0,x,hx,rfl⟩
     ·rw[if_pos h0]
      simp only[Sem.run_bind,Sem.run_pure,Result.andThen,e1,zjh]
     ·rw[if_neg h0]
      simp only[Sem.run_bind,hx,Sem.run_pure,Result.andThen,e1,zjh]
  ·cases h
 |_=> simp[hd] at h
theorem zQy {o:Oper} {a:Act} {t:TypeId} {len:Nat} {ps:Array (Nat×Operand)} (ho:o.op=.buildSlice t len ps):
 execOp a.eval o=(do pure (.value (←Instr.buildSlice t len (ps.map fun p=> (p.1,a.eval p.2))))):=by
 unfold execOp
 rw[ho]
theorem zQw {o:Oper} {a:Act} {t:TypeId} {ps:Array (Nat×Operand)} (ho:o.op=.build t ps):
 execOp a.eval o=(do pure (.value (←Instr.build t (ps.map fun p=> (p.1,a.eval p.2))))):=by
 unfold execOp
 rw[ho]
theorem zXd (h:WR g get n w) {nid:Nat} (hf:ZDc get n nid) {o:Oper} {a:Act} {t:TypeId} {len:Nat} {ps:Array (Nat×Operand)} (ho:o.op=.buildSlice t len ps) {vs:List (Nat×V)}
 (h1:(ps.toList.map fun (p:Nat×Operand)=> (p.1,a.eval p.2)).map (·.1)=vs.map (·.1)) (h2:vrl g.I (g.at get n) (vs.map (·.2)) ((ps.toList.map fun (p:Nat×Operand)=> (p.1,a.eval p.2)).map (·.2)))
 {cs:List V} {sz:Nat} (hl:ZE1 P t len vs=some (cs,sz)) {hm:Bool} {e:Eff} (he:ZF8 hm nid len cs sz=some e):ZDn P o a g get n w nid e:=by
 have hps:(ps.map fun p=> (p.1,a.eval p.2)).toList=ps.toList.map fun (p:Nat×Operand)=> (p.1,a.eval p.2):=by simp
 obtain⟨el,c,hd,rfl,hc,hcl,hrun⟩:=zXc (P:=P) (xs:=ps.map fun p=> (p.1,a.eval p.2)) (by rw[hps];exact h1) (by rw[hps];exact h2) hl w
 have hex:(execOp a.eval o).run P w=.ok (.value (.slice (some ⟨w.heap.size,0,none⟩) len len)) (w.alloc (.cells c el)):=
  zaU (zQy ho) hrun
 unfold ZF8 at he
 split at he
 ·rename_i hp
  rw[Bool.and_eq_true] at hp
  obtain rfl:=Option.some.inj he
  obtain⟨hW,hE⟩:=h.imm_alloc c el
  have hv:=za3 hp.1 (zaW hc)
  refine⟨.slice (some ⟨w.heap.size,0,none⟩) len len,w.alloc (.cells c el),_,.inl hex,hW,hE,?_⟩
  have hra:vra (ZC0 g.I w.heap.size 0 c.toList) w.heap.size 0 (V.seals cs):=zkx (QJ hE.I_le (At.le_refl _) hv) fun i x hx=> zkR hx
  have hl:(V.seals cs).length=len * ZmI P el:=by rw[←hcl,←Zg hc,←Zg hv]
  simp only[vr]
  exact⟨w.heap.size,0,len,rfl,Nat.le_refl _,hl,hra,rfl⟩
 ·obtain rfl:=Option.some.inj he
  obtain⟨hW,hE⟩:=zye h hf hc el
  refine⟨.slice (some ⟨w.heap.size,0,none⟩) len len,w.alloc (.cells c el),_,.inl hex,hW,hE,?_⟩
  simp only[vr]
  refine⟨⟨w.heap.size,0,none⟩,len,rfl,by show nid < max n (nid+1);omega,by show(upd get nid _ nid).firm=true;rw[zG];rfl,?_,Nat.le_refl _,Nat.le_refl _,fun _=> rfl,?_⟩
  ·simp[G.put]
  ·simp only[G.put,if_pos rfl,Nat.zero_add]
   rw[←Array.length_toList,Zg hc,hcl]
   simp
end
end
section
variable {P:Program}
theorem zO9 {i:Int} (h0:0≤i) (h1:i≤2 ^ 24):IntKind.i64.wrap i=i:=by
 have:i≤16777216:=h1
 exact IntWalk.i64_in _ (by omega)
section
variable {g:G} {get:Nat→Blk} {n:Nat} {w:World}
theorem zXC (h:WR g get n w) {nid:Nat} (hf:ZDc get n nid) {o:Oper} {a:Act} {t:TypeId} {x y:Operand} (ho:o.op=.makeSlice t x y) {el:TypeId} (hd:und P t=.slice el) {k k':IntKind} {l c:Int} (hl:a.eval x=.int k l) (hc:a.eval y=.int k' c)
 {e:Eff} (he:ZE6 P el nid l c=some e):ZDn P o a g get n w nid e:=by
 unfold ZE6 at he
 split at he
 ·rename_i hb
  obtain⟨b1,b2,b3,b4,hok⟩:=hb
  cases hzs:(if c.toNat * ZmI P el=0 then some [] else (zeroOf P el).bind fun z=> if z.cells.length=ZmI P el then some (ZDw z.cells c.toNat) else none) with
  |none=> rw[hzs] at he;cases he
  |some zs=>
   rw[hzs] at he
   obtain rfl:=Option.some.inj he
   obtain⟨zero,hz1,hz2⟩:=zPb (P:=P) (I:=g.I) (A:=g.at get n) hzs w
   obtain⟨i,hi1,hi2,hi3⟩:=zCW hok w
   obtain⟨hW,hE⟩:=zye h hf hz2 el
   have b3':c≤16777216:=b3
   have b4':c * (bytesOf P el:Int)≤1099511627776:=b4
   have hwl:IntKind.i64.wrap l=l:=zO9 b1 (by omega)
   have hwc:IntKind.i64.wrap c=c:=zO9 (by omega) b3
   have hby:(i.bytes:Int) * c≤1099511627776:=by rw[hi3,Int.mul_comm];exact b4'
   have hby2:(i.bytes:Int) * l≤1099511627776:=Int.le_trans (Int.mul_le_mul_of_nonneg_left b2 (Int.natCast_nonneg _)) hby
   have hroom:¬(c.toNat * i.bytes > roomBytes):=by
    have e1:((c.toNat * i.bytes:Nat):Int)=(i.bytes:Int) * c:=by
     rw[Int.natCast_mul,Int.toNat_of_nonneg (by omega),Int.mul_comm]
    have e2:(roomBytes:Int)=140737488355328:=by decide
    intro hgt
    have:(roomBytes:Int) < ((c.toNat * i.bytes:Nat):Int):=by exact_mod_cast hgt
    omega
   refine⟨.slice (some ⟨w.heap.size,0,none⟩) l.toNat c.toNat,_,_,.inl (zaU (s:=Instr.makeSlice t (a.eval x) (a.eval y)) (by unfold execOp;rw[ho]) ?_),hW,hE,?_⟩
   ·unfold Instr.makeSlice
    rw[Sem.run_bind,zn hd (by simp) w,hl,hc]
    simp only[Result.andThen,asInt,asIntOf,Sem.run_bind,Sem.run_pure,hi1,hwl,hwc]
    have hlarge:¬((decide (c < 0)||decide ((i.bytes:Int) * c > 2 ^ 48))||decide (l < 0)||decide (l > c))=true:=by
     simp only[Bool.or_eq_true,decide_eq_true_eq]
     have:(2:Int) ^ 48=281474976710656:=by decide
     omega
    rw[if_neg hlarge]
    unfold askRoom
    rw[if_neg hroom]
    simp only[Sem.run_pure,Result.andThen,Sem.run_bind,QH hok w]
    rcases hz1 with ⟨h0,rfl⟩|⟨h0,z,hz,rfl⟩
    ·rw[if_pos h0]
     simp only[Sem.run_bind,Sem.run_pure,Result.andThen,zjh]
    ·rw[if_neg h0]
     simp only[Sem.run_bind,hz,Sem.run_pure,Result.andThen,zjh]
   ·simp only[vr]
    refine⟨⟨w.heap.size,0,none⟩,c.toNat,rfl,by show nid < max n (nid+1);omega,by show(upd get nid _ nid).firm=true;rw[zG];rfl,by simp[G.put],by omega,Nat.le_refl _,fun _=> rfl,?_⟩
    simp[G.put]
 ·cases he
theorem zXB (h:WR g get n w) {nid:Nat} (hf:ZDc get n nid) {o:Oper} {a:Act} {t:TypeId} (ho:o.op=.makeMap t none):ZDn P o a g get n w nid {v:=.map nid,nw:=[.map [] 0]}:=by
 have hW:=h.new hf (.map #[] 0) (.map [] 0) 0 0 fun e=> ⟨#[],0,by rw[show(g.put nid w.heap.size 0 0).mu nid=w.heap.size from if_pos rfl];exact zaY _ _,⟨[],.refl _,rfl⟩,by simp,by simp⟩
 refine⟨.map (some w.heap.size),w.alloc (.map #[] 0),_,.inl (zaU (s:=Instr.makeMap t none) (by unfold execOp;rw[ho];rfl) ?_),hW.1,hW.2,?_⟩
 ·unfold Instr.makeMap newObj
  rw[Sem.run_bind]
  rfl
 ·simp only[vr]
  exact⟨w.heap.size,rfl,by show nid < max n (nid+1);omega,by show(upd get nid _ nid).firm=true;rw[zG];rfl,by simp[G.put]⟩
theorem zkL {I:Imm} {A:At}:∀{l:List (V×V)} {es:List MapEntry},ZCZ I A l es→es.length=l.length
 |[],_,h=> by simp[ZCZ] at h;simp[h]
 |(_,_)::_,_,⟨e,es',h,_,_,h3⟩=> by subst h;simp[zkL h3]
theorem zQq {I:Imm} {A:At} {l:List (V×V)} {es:List MapEntry}:ZEL I A l es→es.length=l.length
 |⟨_,h,h1⟩=> by rw[zkL h1,h.length_eq]
theorem zWC (h:WR g get n w) {t:TypeId} {x:V} {x':Value} (hx:vr g.I (g.at get n) x x') {e:Eff} (he:ZDQ P get t x=some e):e.wr=[]∧e.nw=[]∧∃y,(∀ty,(Builtin.len_ #[t] ty #[x']).run P w=.ok y w)∧vr g.I (g.at get n) e.v y:=by
 unfold ZDQ at he
 have hl:∀ty,(Builtin.len_ #[t] ty #[x']).run P w=(Builtin.len_ #[t] 0 #[x']).run P w:=fun _=> rfl
 suffices hh:e.wr=[]∧e.nw=[]∧∃y,(Builtin.len_ #[t] 0 #[x']).run P w=.ok y w∧vr g.I (g.at get n) e.v y by
  obtain⟨a1,a2,y,a3,a4⟩:=hh
  exact⟨a1,a2,y,fun ty=> (hl ty).trans a3,a4⟩
 clear hl
 unfold Builtin.len_
 simp only[List.getElem?_toArray,List.getElem?_cons_zero,Sem.run_bind]
 split at he
 ·rename_i hd
  obtain rfl:=Option.some.inj he
  simp only[vr] at hx;subst hx
  exact⟨rfl,rfl,goInt _,by rw[zn hd (by simp) w];rfl,by simp[vr,goInt]⟩
 ·rename_i hd
  obtain rfl:=Option.some.inj he
  exact⟨rfl,rfl,goInt _,by rw[zn hd (by simp) w];rfl,by simp[vr,goInt]⟩
 ·rename_i hd
  obtain rfl:=Option.some.inj he
  simp only[vr] at hx;subst hx
  exact⟨rfl,rfl,goInt _,by rw[zn hd (by simp) w];rfl,by simp[vr,goInt]⟩
 ·rename_i hd
  obtain rfl:=Option.some.inj he
  simp only[vr] at hx;obtain⟨_,rfl⟩:=hx
  exact⟨rfl,rfl,goInt _,by rw[zn hd (by simp) w];rfl,by simp[vr,goInt]⟩
 ·rename_i hd
  obtain rfl:=Option.some.inj he
  simp only[vr] at hx;obtain⟨b,o,cap,rfl,_⟩:=hx
  exact⟨rfl,rfl,goInt _,by rw[zn hd (by simp) w];rfl,by simp[vr,goInt]⟩
 ·rename_i hd
  obtain rfl:=Option.some.inj he
  simp only[vr] at hx;obtain⟨b,c,rfl,_⟩:=hx
  exact⟨rfl,rfl,goInt _,by rw[zn hd (by simp) w];rfl,by simp[vr,goInt]⟩
 ·rename_i x dd xx kk ee hd
  cases hm:mapOf get x with
  |none=> rw[hm] at he;cases he
  |some p=>
   obtain⟨es,rs⟩:=p
   rw[hm] at he
   obtain rfl:=Option.some.inj he
   unfold mapOf at hm
   cases x with
   |nilm=>
    simp only[vr] at hx;subst hx
    simp at hm;obtain⟨rfl,_⟩:=hm
    exact⟨rfl,rfl,goInt 0,by rw[zn hd (by simp) w];rfl,by simp[vr,goInt]⟩
   |map r=>
    simp only[vr] at hx
    obtain⟨b,rfl,hr,hfm,rfl⟩:=hx
    simp only at hm
    cases hg:get r with
    |map es' ver=>
     simp[hg] at hm;obtain⟨rfl,_⟩:=hm
     have hb:=h.blk r hr
     rw[hg] at hb
     obtain⟨ents,clock,h1,h2,h3⟩:=hb
     refine⟨rfl,rfl,goInt ents.size,?_,?_⟩
     ·rw[zn hd (by simp) w]
      simp only[Result.andThen,getObj,Sem.run_bind,Sem.run,h1,Sem.run_pure]
     ·have:=zQq h2
      simp only[Array.length_toList] at this
      simp[vr,goInt,this]
    |_=> simp[hg] at hm
   |_=> cases hm
 ·cases he
theorem zNM {I:Imm} {A:At}:∀{vs:List V} {xs:List Value} {x v:V} {x':Value},vr I A x x'→vrl I A vs xs→ZDG true x vs=some v→∀w,∃y,(xs.foldlM Builtin.max2 x':Sem Value).run P w=.ok y w∧vr I A v y
 |[],xs,x,v,x',hx,hl,h,w=> by
  simp[vrl] at hl;subst hl
  have:x=v:=by cases x <;> simpa[ZDG] using h
  subst this
  exact⟨x',rfl,hx⟩
 |u::us,xs,x,v,x',hx,hl,h,w=> by
  simp only[vrl] at hl
  obtain⟨y,ys,rfl,hy,hl⟩:=hl
  unfold ZDG at h
  split at h
  ·rename_i heq;cases heq
  ·rename_i k a k' b rest heq
   obtain⟨rfl,rfl⟩:=List.cons.inj heq
   simp only[vr] at hx hy;subst hx hy
   obtain⟨z,hz,hv⟩:=zNM (x:=.int k (if a < b then b else a)) (x':=.int k (if b > a then b else a)) (by simp only[vr,gt_iff_lt]) hl (by simpa using h) w
   refine⟨z,?_,hv⟩
   rw[List.foldlM_cons,Sem.run_bind]
   simpa[Builtin.max2] using hz
  ·cases h
theorem zNP {I:Imm} {A:At}:∀{vs:List V} {xs:List Value} {x v:V} {x':Value},vr I A x x'→vrl I A vs xs→ZDG false x vs=some v→∀w,∃y,(xs.foldlM Builtin.min2 x':Sem Value).run P w=.ok y w∧vr I A v y
 |[],xs,x,v,x',hx,hl,h,w=> by
  simp[vrl] at hl;subst hl
  have:x=v:=by cases x <;> simpa[ZDG] using h
  subst this
  exact⟨x',rfl,hx⟩
 |u::us,xs,x,v,x',hx,hl,h,w=> by
  simp only[vrl] at hl
  obtain⟨y,ys,rfl,hy,hl⟩:=hl
  unfold ZDG at h
  split at h
  ·rename_i heq;cases heq
  ·rename_i k a k' b rest heq
   obtain⟨rfl,rfl⟩:=List.cons.inj heq
   simp only[vr] at hx hy;subst hx hy
   obtain⟨z,hz,hv⟩:=zNP (x:=.int k (if b < a then b else a)) (x':=.int k (if b < a then b else a)) (by simp only[vr]) hl (by simpa using h) w
   refine⟨z,?_,hv⟩
   rw[List.foldlM_cons,Sem.run_bind]
   simpa[Builtin.min2] using hz
  ·cases h
end
end
section
variable {P:Program}
theorem zEi (need:Nat):∀(rounds c:Nat),c < need→Builtin.growBy need rounds c≤need+(need+768) / 4
 |0,c,h=> by simp only[Builtin.growBy];omega
 |k+1,c,h=> by
  simp only[Builtin.growBy]
  split
  ·omega
  ·by_cases h2:c+(c+768) / 4 < need
   ·exact zEi need k _ h2
   ·have:Builtin.growBy need k (c+(c+768) / 4)=c+(c+768) / 4:=by
     cases k with
     |zero=> rfl
     |succ k=> simp only[Builtin.growBy];rw[if_pos (by omega)]
    rw[this];omega
theorem zXZ {need cap:Nat} (h:cap < need):Builtin.nextslicecap need cap≤2 * need+192:=by
 unfold Builtin.nextslicecap
 split
 ·omega
 ·split
  ·omega
  ·have:=zEi need 4 cap h
   omega
theorem zPw (k:Nat) (w:World):(askRoom k).run P w=.ok () w:=by
 unfold askRoom
 split <;> rfl
theorem zPU (need cap:Nat) (e:TypeId) (w:World):∃m,need≤m∧(choose (.appendCap need cap e)).run P w=.ok m {w with drawn:=w.drawn+1}:=by
 refine⟨(Question.appendCap need cap e).cut (w.tape w.drawn (.appendCap need cap e)),?_,rfl⟩
 simp only[Question.cut];omega
section
variable {t u e:TypeId} (ht:und P t=.slice e) (hu:okU P u=true) (hint:∀k,und P u≠.int k) (hz:okZ P e=true)
include ht hu hint hz
theorem zjs {base:Option Addr} {sLen sCap n:Nat} {x:Value} {ty:TypeId} {w w':World} {ys:Array Value} (hlen:(Builtin.lenOf x).run P w=.ok n w) (hle:sLen+n≤sCap) (hnew:(Builtin.firstCells (ZmI P e) n x).run P w=.ok ys w)
 (hst:(match base with|some a=> storeCells (a.add (sLen * ZmI P e)) ys.toList|none=> pure ():Sem Unit).run P w=.ok () w'):
 (Builtin.append_ #[t,u] ty #[.slice base sLen sCap,x]).run P w=.ok (.slice base (sLen+n) sCap) w':=by
 unfold Builtin.append_
 have hzf:(match und P u with|.int _=> true|_=> false)=false:=by
  cases hd:und P u <;> first|rfl|exact absurd hd (hint _)
 simp only[List.getElem?_toArray,List.getElem?_cons_zero,List.getElem?_cons_succ,Sem.run_bind,zn ht (by simp) w,Result.andThen,QH (zyg hz) w,zjl hu w,Sem.run_pure]
 cases hd:und P u with
 |int k=> exact absurd hd (hint k)
 |_=>
  simp only[Bool.false_eq_true,if_false,Sem.run_bind,hlen,Result.andThen,if_pos hle,Bool.not_false,if_true,hnew]
  cases base with
  |none=>
   simp only[Sem.run_pure] at hst⊢
   injection hst with _ hst
   rw[hst]
  |some a=>
   simp only at hst⊢
   rw[Sem.run_bind,hst]
   rfl
theorem zkE {base:Option Addr} {sLen sCap n:Nat} {x:Value} {ty:TypeId} {w:World} {old ys:Array Value} (hpos:0 < n) (hlen:(Builtin.lenOf x).run P w=.ok n w) (hlt:sCap < sLen+n) (hroom:ZD4 P e (sLen+n))
 (hold:∀w1:World,w1.heap=w.heap→(Builtin.firstCells (ZmI P e) sLen (.slice base sLen sCap)).run P w1=.ok old w1) (hnew:∀w1:World,w1.heap=w.heap→(Builtin.firstCells (ZmI P e) n x).run P w1=.ok ys w1):
 ∃cap c,sLen+n≤cap∧(∃rest:Array Value,c=old++ys++rest∧rest.size=(cap - (sLen+n)) * ZmI P e)∧
  (Builtin.append_ #[t,u] ty #[.slice base sLen sCap,x]).run P w=.ok (.slice (some ⟨w.heap.size,0,none⟩) (sLen+n) cap) ({w with drawn:=w.drawn+1}.alloc (.cells c e)):=by
 obtain⟨cap,hcap,hch⟩:=zPU (P:=P) (sLen+n) sCap e w
 obtain⟨z,hzr,hzs⟩:=zYP hz {w with drawn:=w.drawn+1}
 obtain⟨i,hi1,hi2,hi3⟩:=zCW (zyg hz) w
 obtain⟨j,hj1,hj2,hj3⟩:=zCW (zyg hz) {w with drawn:=w.drawn+1}
 obtain⟨r1,r2⟩:=hroom
 have r1':(sLen+n) * bytesOf P e≤1099511627776:=r1
 have r2':sLen+n≤1099511627776:=r2
 have hn1:=zXZ hlt
 have hmax:¬(((sLen+n:Nat):Int) > IntKind.i64.max∧(false=true∨i.bytes=0)):=by
  have:IntKind.i64.max=9223372036854775807:=by decide
  rintro⟨h1,_⟩
  omega
 have hbig:¬Builtin.nextslicecap (sLen+n) sCap * i.bytes > 2 ^ 48:=by
  rw[hi3]
  have hb:bytesOf P e≤1099511627776:=by
   have:1 * bytesOf P e≤(sLen+n) * bytesOf P e:=Nat.mul_le_mul_right _ (by omega)
   omega
  have h2:Builtin.nextslicecap (sLen+n) sCap * bytesOf P e≤(2 * (sLen+n)+192) * bytesOf P e:=Nat.mul_le_mul_right _ hn1
  have h3:(2 * (sLen+n)+192) * bytesOf P e=2 * ((sLen+n) * bytesOf P e)+192 * bytesOf P e:=by rw[Nat.add_mul,Nat.mul_assoc]
  have h4:(2:Nat) ^ 48=281474976710656:=by decide
  omega
 refine⟨cap,old++ys++Builtin.zeroCells z.cells (cap - (sLen+n)),hcap,⟨_,rfl,?_⟩,?_⟩
 ·simp[Builtin.zeroCells,hzs]
 ·unfold Builtin.append_
  simp only[List.getElem?_toArray,List.getElem?_cons_zero,List.getElem?_cons_succ,Sem.run_bind,zn ht (by simp) w,Result.andThen,QH (zyg hz) w,zjl hu w,Sem.run_pure]
  cases hd:und P u with
  |int k=> exact absurd hd (hint k)
  |_=>
   simp only[Bool.false_eq_true,if_false,Sem.run_bind,hlen,Result.andThen,if_neg (Nat.not_le.2 hlt),Bool.not_false,if_true]
   simp only[hi1,Sem.run_bind,Result.andThen]
   rw[if_neg (by simpa using hmax)]
   simp only[hi1,Sem.run_bind,Result.andThen]
   rw[if_neg hbig]
   simp only[Sem.run_bind,hch,Result.andThen,hj1,zPw,hold {w with drawn:=w.drawn+1} rfl,hnew {w with drawn:=w.drawn+1} rfl,hzr,zjh,Sem.run_pure]
end
end
section
variable {P:Program}
section
variable {g:G} {get:Nat→Blk} {n:Nat} {w:World}
def G.withI (g:G) (I:Imm):G:={g with I:=I}
theorem zQ1 (h:WR g get n w) {nid:Nat} (hf:ZDc get n nid) (c:Array Value) (el:TypeId) (m hw:Nat) (hm:m≤c.size):
 WR ((g.withI (ZC0 g.I w.heap.size 0 (c.toList.take m))).put nid w.heap.size m c.size) (upd get nid (.tok hw)) (max n (nid+1)) (w.alloc (.cells c el))∧
 Ext g get n w ((g.withI (ZC0 g.I w.heap.size 0 (c.toList.take m))).put nid w.heap.size m c.size) (upd get nid (.tok hw)) (max n (nid+1)) (w.alloc (.cells c el)):=by
 have hres:∀r,r < n→r=nid→get r=.resv:=fun r hr e=> by subst e;exact hf.2 hr
 refine WR.go (fun r=> r=nid) (fun _=> False) h (Nat.le_max_left _ _) ?_ ?_ (zkC _ _) (fun b hb _=> zjr _ _ hb) (fun _ _ hd=> hd.elim) ?_ ?_ ?_ ?_ ?_ ?_ ?_ ?_ ?_ rfl rfl rfl ?_ ?_
 ·intro r _ hc;exact⟨J7 _ _ hc,if_neg hc,if_neg hc,if_neg hc⟩
 ·intro r h1 h2;have:=hf.1;omega
 ·exact zkS fun o x hx=> by rw[zaf h (Nat.le_refl _)] at hx;cases hx
 ·intro b o x hx
  rcases zaZ hx with h1|⟨rfl,_⟩
  ·exact .inl h1
  ·exact .inr (.inl (Nat.le_refl _))
 ·intro b o x hx hc
  rcases zaZ hx with h1|⟨rfl,i,rfl,hi⟩
  ·rcases hc with hc|hc
   ·rw[zaf h hc] at h1;cases h1
   ·exact hc.elim
  ·rw[Nat.zero_add,zyP]
   rw[List.getElem?_take] at hi
   split at hi
   ·simpa using hi
   ·cases hi
 ·intro r hr hc hfm;rw[hres r hr hc] at hfm;cases hfm
 ·intro r hr hc hk;exact absurd (hres r hr hc) hk
 ·intro r hr hc hw hw' e;rw[hres r hr hc] at e;cases e
 ·intro r _ hc _;subst hc;exact .inl (by simp[G.put])
 ·intro r r' _ _ hc hc' _ _ _;rw[hc,hc']
 ·intro r k ver left cur hr hc hg hcm es ver' he;subst hcm;rw[zG] at he;cases he
 ·intro e r _ hc
  subst hc
  rw[zG]
  refine⟨c,el,by rw[show((g.withI (ZC0 g.I w.heap.size 0 (c.toList.take m))).put r w.heap.size m c.size).mu r=w.heap.size from if_pos rfl];exact zaY _ _,by simp[G.put],by simpa[G.put] using hm,fun o ho=> ?_⟩
  have ho':m≤o:=by simpa[G.put] using ho
  show ZC0 g.I w.heap.size 0 (c.toList.take m) _ o=none
  rw[show((g.withI (ZC0 g.I w.heap.size 0 (c.toList.take m))).put r w.heap.size m c.size).mu r=w.heap.size from if_pos rfl]
  unfold ZC0
  rw[if_neg (by simp only[List.length_take,Array.length_toList];omega)]
  exact zaf h (Nat.le_refl _) o
 ·intro r hr hc es ver e;rw[hres r hr hc] at e;cases e
theorem zQ0 (h:WR g get n w) {r hw hw':Nat} (hr:r < n) (hg:get r=.tok hw) (hlt:hw < hw') (c:Array Value) (el:TypeId) (m:Nat) (hm:m≤c.size):
 WR ((g.withI (ZC0 g.I w.heap.size 0 (c.toList.take m))).put r w.heap.size m c.size) (upd get r (.tok hw')) n (w.alloc (.cells c el))∧
 Ext g get n w ((g.withI (ZC0 g.I w.heap.size 0 (c.toList.take m))).put r w.heap.size m c.size) (upd get r (.tok hw')) n (w.alloc (.cells c el)):=by
 refine WR.go (fun j=> j=r) (fun _=> False) h (Nat.le_refl _) ?_ ?_ (zkC _ _) (fun b hb _=> zjr _ _ hb) (fun _ _ hd=> hd.elim) ?_ ?_ ?_ ?_ ?_ ?_ ?_ ?_ ?_ rfl rfl rfl ?_ ?_
 ·intro j _ hc;exact⟨J7 _ _ hc,if_neg hc,if_neg hc,if_neg hc⟩
 ·intro j h1 h2;omega
 ·exact zkS fun o x hx=> by rw[zaf h (Nat.le_refl _)] at hx;cases hx
 ·intro b o x hx
  rcases zaZ hx with h1|⟨rfl,_⟩
  ·exact .inl h1
  ·exact .inr (.inl (Nat.le_refl _))
 ·intro b o x hx hc
  rcases zaZ hx with h1|⟨rfl,i,rfl,hi⟩
  ·rcases hc with hc|hc
   ·rw[zaf h hc] at h1;cases h1
   ·exact hc.elim
  ·rw[Nat.zero_add,zyP]
   rw[List.getElem?_take] at hi
   split at hi
   ·simpa using hi
   ·cases hi
 ·intro j _ hc hfm;subst hc;rw[hg] at hfm;cases hfm
 ·intro j _ hc _;subst hc;rw[zG];simp
 ·intro j _ hc h1 h2 e1 e2
  subst hc
  rw[hg] at e1;rw[zG] at e2
  cases e1;cases e2
  exact⟨by omega,fun he=> by omega⟩
 ·intro j _ hc _;subst hc;exact .inl (by simp[G.put])
 ·intro j j' _ _ hc hc' _ _ _;rw[hc,hc']
 ·intro j k ver left cur _ _ _ hcm es ver' he;subst hcm;rw[zG] at he;cases he
 ·intro e j _ hc
  subst hc
  rw[zG]
  refine⟨c,el,by rw[show((g.withI (ZC0 g.I w.heap.size 0 (c.toList.take m))).put j w.heap.size m c.size).mu j=w.heap.size from if_pos rfl];exact zaY _ _,by simp[G.put],by simpa[G.put] using hm,fun o ho=> ?_⟩
  have ho':m≤o:=by simpa[G.put] using ho
  show ZC0 g.I w.heap.size 0 (c.toList.take m) _ o=none
  rw[show((g.withI (ZC0 g.I w.heap.size 0 (c.toList.take m))).put j w.heap.size m c.size).mu j=w.heap.size from if_pos rfl]
  unfold ZC0
  rw[if_neg (by simp only[List.length_take,Array.length_toList];omega)]
  exact zaf h (Nat.le_refl _) o
 ·intro j _ hc es ver e1;subst hc;rw[hg] at e1;cases e1
theorem zZs (h:WR g get n w) {r hw hw':Nat} (hr:r < n) (hg:get r=.tok hw) (hlt:hw < hw') {ys:List Value} (hone:∀x∈ys,x.oneCell'=true) (hle:g.base r+ys.length≤g.ts r):
 ∃w',(storeCells ⟨g.mu r,g.base r,none⟩ ys).run P w=.ok () w'∧
 WR ((g.withI (ZC0 g.I (g.mu r) (g.base r) ys)).put r (g.mu r) (g.base r+ys.length) (g.ts r)) (upd get r (.tok hw')) n w'∧
 Ext g get n w ((g.withI (ZC0 g.I (g.mu r) (g.base r) ys)).put r (g.mu r) (g.base r+ys.length) (g.ts r)) (upd get r (.tok hw')) n w':=by
 have hb:=h.blk r hr
 rw[hg] at hb
 obtain⟨c,el,h1,h2,h3,h5⟩:=hb
 have hst:=run_storeCells_at (P:=P) (g.mu r) (g.base r) el ys 0 c w h1 (by rw[Nat.add_zero];omega) hone
 simp only[Nat.add_zero] at hst
 have hcl:c.toList.length=c.size:=Array.length_toList
 have hwh:=zC0 w _ h1 (c.toList.take (g.base r)++ys++c.toList.drop (g.base r+ys.length)).toArray
 have hlt0:=QG h1
 have hnc:(w.setRow (g.mu r) (c.toList.take (g.base r)++ys++c.toList.drop (g.base r+ys.length)).toArray).heap[g.mu r]?=some (.cells (c.toList.take (g.base r)++ys++c.toList.drop (g.base r+ys.length)).toArray el (0,0)):=by rw[hwh];simp[hlt0]
 have hgm:∀(I:Imm) (j a b t:Nat),((g.withI I).put j a b t).mu j=a:=fun _ _ _ _ _=> if_pos rfl
 refine⟨_,hst,WR.go (fun j=> j=r) (fun b=> b=g.mu r) h (Nat.le_refl _) ?_ ?_ ?_ ?_ ?_ ?_ ?_ ?_ ?_ ?_ ?_ ?_ ?_ ?_ rfl rfl rfl ?_ ?_⟩
 ·intro j _ hc;exact⟨J7 _ _ hc,if_neg hc,if_neg hc,if_neg hc⟩
 ·intro j h1 h2;omega
 ·rw[hwh];simp
 ·intro b _ hd;rw[hwh,Array.getElem?_setIfInBounds_ne (Ne.symm hd)]
 ·intro b _ hd;exact⟨r,hr,rfl,by rw[hg];rfl,hd.symm⟩
 ·exact zkS fun o x hx ho _=> by rw[h5 o ho] at hx;cases hx
 ·intro b o x hx
  rcases zaZ hx with h6|⟨rfl,_⟩
  ·exact .inl h6
  ·exact .inr (.inr rfl)
 ·intro b o x hx hc
  rcases zaZ hx with h6|⟨rfl,i,rfl,hi⟩
  ·rcases hc with hc|rfl
   ·rw[zaf h hc] at h6;cases h6
   ·have ho:o < g.base r:=by
     rcases Nat.lt_or_ge o (g.base r) with hh|hh
     ·exact hh
     ·rw[h5 o hh] at h6;cases h6
    have hx':=h.imm _ o x h6
    unfold World.cell? at hx'⊢
    rw[h1] at hx'
    rw[hnc]
    simp only[Option.isSome_none,Bool.false_eq_true,if_false] at hx'⊢
    simp only[List.getElem?_toArray]
    rw[List.append_assoc,List.getElem?_append,if_pos (by simp only[List.length_take];omega),List.getElem?_take,if_pos ho]
    simpa using hx'
  ·have hil:i < ys.length:=(List.getElem?_eq_some_iff.1 hi).1
   unfold World.cell?
   rw[hnc]
   simp only[Option.isSome_none,Bool.false_eq_true,if_false,List.getElem?_toArray]
   have e1:(c.toList.take (g.base r)).length=g.base r:=by simp only[List.length_take];omega
   rw[List.append_assoc,List.getElem?_append,e1,if_neg (by omega),show g.base r+i - g.base r=i by omega,List.getElem?_append,if_pos hil]
   exact hi
 ·intro j _ hc hfm;subst hc;rw[hg] at hfm;cases hfm
 ·intro j _ hc _;subst hc;rw[zG];simp
 ·intro j _ hc a1 a2 e1 e2
  subst hc
  rw[hg] at e1;rw[zG] at e2
  cases e1;cases e2
  exact⟨by omega,fun he=> by omega⟩
 ·intro j _ hc _;subst hc;exact .inr ⟨j,hr,rfl,by rw[hg];rfl,(hgm _ _ _ _ _).symm⟩
 ·intro j j' _ _ hc hc' _ _ _;rw[hc,hc']
 ·intro j k ver left cur _ _ _ hcm es ver' he;subst hcm;rw[zG] at he;cases he
 ·intro e j _ hc
  subst hc
  rw[zG]
  refine⟨_,el,by rw[hgm];exact hnc,?_,?_,fun o ho=> ?_⟩
  ·simp only[G.put,if_true,List.size_toArray,List.length_append,List.length_take,List.length_drop];omega
  ·simp only[G.put,if_true,List.size_toArray,List.length_append,List.length_take,List.length_drop];omega
  ·have ho':g.base j+ys.length≤o:=by simpa[G.put] using ho
   show ZC0 g.I (g.mu j) (g.base j) ys _ o=none
   rw[hgm]
   unfold ZC0
   rw[if_neg (by omega)]
   exact h5 o (by omega)
 ·intro j _ hc es ver e1;subst hc;rw[hg] at e1;cases e1
end
end
section
variable {P:Program}
section
variable {g:G} {get:Nat→Blk} {n:Nat} {w:World}
theorem zXX (h:WR g get n w) {nid:Nat} (hf:ZDc get n nid) {cs:List V} {c:Array Value} (k:Nat) (hc:vrl g.I (g.at get n) cs (c.toList.take cs.length)) (hle:cs.length≤c.size) (el:TypeId):
 WR (g.put nid w.heap.size 0 c.size) (upd get nid (.row k cs)) (max n (nid+1)) (w.alloc (.cells c el))∧Ext g get n w (g.put nid w.heap.size 0 c.size) (upd get nid (.row k cs)) (max n (nid+1)) (w.alloc (.cells c el)):=by
 refine h.new hf _ _ _ _ fun e=> ?_
 have h1:(g.put nid w.heap.size 0 c.size).mu nid=w.heap.size:=if_pos rfl
 have h2:(g.put nid w.heap.size 0 c.size).base nid=0:=if_pos rfl
 have h3:(g.put nid w.heap.size 0 c.size).ts nid=c.size:=if_pos rfl
 refine⟨c,el,by rw[h1];exact zaY _ _,h3.symm,by rw[h2];omega,fun i v hv=> ?_,fun o _=> by rw[h1];exact zaf h (Nat.le_refl _) o⟩
 obtain⟨x,hx,hvr⟩:=zab hc hv
 have hi:i < cs.length:=(List.getElem?_eq_some_iff.1 hv).1
 rw[List.getElem?_take,if_pos hi] at hx
 exact⟨x,by rw[h2,Nat.zero_add];simpa using hx,e.vr hvr⟩
theorem zy5 {nid r:Nat} (hf:ZDc get n nid) (hr:r < n) (hl:(get r).live=true):r≠nid:=by
 rintro rfl
 rw[hf.2 hr] at hl
 cases hl
theorem zX2 (h:WR g get n w) {r:Nat} (hr:r < n) {c:Array Value} {el:TypeId} {f:Nat×Nat} (hc:w.heap[g.mu r]?=some (.cells c el f)) (es:List (V×V)) (ver:Nat):get r≠.map es ver:=by
 intro e
 have hb:=h.blk r hr
 rw[e] at hb
 obtain⟨ents,clock,h1,_⟩:=hb
 rw[hc] at h1;cases h1
theorem zXQ (h:WR g get n w) {nid r:Nat} (hf:ZDc get n nid) (hr:r < n) (hl:(get r).live=true) (hnm:∀es ver,get r≠.map es ver) {c c':Array Value} {el:TypeId} (hc:w.heap[g.mu r]?=some (.cells c el (0,0))) (hts:c.size=g.ts r) (hs:c'.size=c.size)
 {w':World} (hw:w'.heap=w.heap.setIfInBounds (g.mu r) (.cells c' el (0,0))) (htape:w'.tape=w.tape) (hos:w'.os=w.os) (hout:w'.output=w.output) {L base k:Nat} (hI:∀o,L≤o→g.I (g.mu r) o=none) (hk:∀o,o < L→c'[o]?=c[o]?) (hL:L≤base+k)
 {cs:List V} (hle:base+cs.length≤c.size) (hnew:∀(i:Nat) (v:V),cs[i]?=some v→∃x,c'[base+i]?=some x∧vr g.I (g.at get n) v x):
 WR (g.put nid (g.mu r) base (g.ts r)) (upd (upd get r .gone) nid (.row k cs)) (max n (nid+1)) w'∧Ext g get n w (g.put nid (g.mu r) base (g.ts r)) (upd (upd get r .gone) nid (.row k cs)) (max n (nid+1)) w':=by
 have hne:=zy5 hf hr hl
 have hres:∀j,j < n→j=nid→get j=.resv:=fun j hj e=> by subst e;exact hf.2 hj
 have hlt0:=QG hc
 have hnc:w'.heap[g.mu r]?=some (.cells c' el (0,0)):=by rw[hw];simp[hlt0]
 have ur:upd (upd get r .gone) nid (.row k cs) r=.gone:=by rw[J7 _ _ hne,zG]
 refine WR.go (fun j=> j=r∨j=nid) (fun b=> b=g.mu r) h (Nat.le_max_left _ _) ?_ ?_ ?_ ?_ ?_ (Imm.le_refl _) (fun _ _ _ hx=> .inl hx) ?_ ?_ ?_ ?_ ?_ ?_ ?_ htape hos hout ?_ ?_
 ·intro j _ hj
  have j1:j≠r:=fun e=> hj (.inl e)
  have j2:j≠nid:=fun e=> hj (.inr e)
  exact⟨by rw[J7 _ _ j2,J7 _ _ j1],if_neg j2,if_neg j2,if_neg j2⟩
 ·intro j h1 h2;exact .inr (by have:=hf.1;omega)
 ·rw[hw];simp
 ·intro b _ hd;rw[hw,Array.getElem?_setIfInBounds_ne (Ne.symm hd)]
 ·intro b _ hd;exact⟨r,hr,.inl rfl,hl,hd.symm⟩
 ·intro b o x hx hd
  have hx:g.I b o=some x:=hx
  have hx':=h.imm b o x hx
  rcases hd with hd|rfl
  ·rw[zaf h hd] at hx;cases hx
  ·have ho:o < L:=by
    rcases Nat.lt_or_ge o L with hh|hh
    ·exact hh
    ·rw[hI o hh] at hx;cases hx
   unfold World.cell? at hx'⊢
   rw[hc] at hx'
   rw[hnc]
   simpa[hk o ho] using hx'
 ·intro j hj hjr hfm
  rcases hjr with rfl|e
  ·exact⟨by rw[ur];rfl,if_neg hne,if_neg hne,if_neg hne⟩
  ·rw[hres j hj e] at hfm;cases hfm
 ·intro j hj hjr hk'
  rcases hjr with rfl|e
  ·rw[ur];simp
  ·exact absurd (hres j hj e) hk'
 ·intro j hj hjr h1 h2 e1 e2
  rcases hjr with rfl|e
  ·rw[ur] at e2;cases e2
  ·rw[hres j hj e] at e1;cases e1
 ·intro j _ hjr hl'
  rcases hjr with rfl|rfl
  ·rw[ur] at hl';cases hl'
  ·exact .inr ⟨r,hr,.inl rfl,hl,by simp[G.put]⟩
 ·intro j j' _ _ hj hj' hl1 hl2 _
  rcases hj with rfl|rfl
  ·rw[ur] at hl1;cases hl1
  ·rcases hj' with rfl|rfl
   ·rw[ur] at hl2;cases hl2
   ·rfl
 ·intro j m ver left cur _ _ _ hm es ver' he
  rcases hm with rfl|rfl
  ·rw[ur] at he;cases he
  ·rw[zG] at he;cases he
 ·intro e j _ hj
  rcases hj with rfl|rfl
  ·rw[ur];trivial
  ·rw[zG]
   have h1:(g.put j (g.mu r) base (g.ts r)).mu j=g.mu r:=if_pos rfl
   have h2:(g.put j (g.mu r) base (g.ts r)).base j=base:=if_pos rfl
   have h3:(g.put j (g.mu r) base (g.ts r)).ts j=g.ts r:=if_pos rfl
   refine⟨c',el,by rw[h1];exact hnc,by rw[h3,hs,hts],by rw[h2,hs];exact hle,fun i v hv=> ?_,fun o ho=> ?_⟩
   ·obtain⟨x,hx,hvr⟩:=hnew i v hv
    exact⟨x,by rw[h2];exact hx,e.vr hvr⟩
   ·rw[h1];rw[h2] at ho;exact hI o (by omega)
 ·intro j hj hjr es ver e1
  rcases hjr with rfl|e
  ·exact absurd e1 (hnm _ _)
  ·rw[hres j hj e] at e1;cases e1
theorem zXR (h:WR g get n w) {nid r:Nat} (hf:ZDc get n nid) (hr:r < n) (hl:(get r).live=true) (hnm:∀es ver,get r≠.map es ver) (c:Array Value) (el:TypeId) {k:Nat} {cs:List V} (hc:vrl g.I (g.at get n) cs (c.toList.take cs.length)) (hle:cs.length≤c.size):
 WR (g.put nid w.heap.size 0 c.size) (upd (upd get r .gone) nid (.row k cs)) (max n (nid+1)) (w.alloc (.cells c el))∧Ext g get n w (g.put nid w.heap.size 0 c.size) (upd (upd get r .gone) nid (.row k cs)) (max n (nid+1)) (w.alloc (.cells c el)):=by
 have hne:=zy5 hf hr hl
 have hres:∀j,j < n→j=nid→get j=.resv:=fun j hj e=> by subst e;exact hf.2 hj
 have ur:upd (upd get r .gone) nid (.row k cs) r=.gone:=by rw[J7 _ _ hne,zG]
 refine WR.go (fun j=> j=r∨j=nid) (fun _=> False) h (Nat.le_max_left _ _) ?_ ?_ (zkC _ _) (fun b hb _=> zjr _ _ hb) (fun _ _ hd=> hd.elim) (Imm.le_refl _) (fun _ _ _ hx=> .inl hx) ?_ ?_ ?_ ?_ ?_ ?_ ?_ rfl rfl rfl ?_ ?_
 ·intro j _ hj
  have j1:j≠r:=fun e=> hj (.inl e)
  have j2:j≠nid:=fun e=> hj (.inr e)
  exact⟨by rw[J7 _ _ j2,J7 _ _ j1],if_neg j2,if_neg j2,if_neg j2⟩
 ·intro j h1 h2;exact .inr (by have:=hf.1;omega)
 ·intro b o x hx hd
  have hx:g.I b o=some x:=hx
  rcases hd with hd|hd
  ·rw[zaf h hd] at hx;cases hx
  ·exact hd.elim
 ·intro j hj hjr hfm
  rcases hjr with rfl|e
  ·exact⟨by rw[ur];rfl,if_neg hne,if_neg hne,if_neg hne⟩
  ·rw[hres j hj e] at hfm;cases hfm
 ·intro j hj hjr hk'
  rcases hjr with rfl|e
  ·rw[ur];simp
  ·exact absurd (hres j hj e) hk'
 ·intro j hj hjr h1 h2 e1 e2
  rcases hjr with rfl|e
  ·rw[ur] at e2;cases e2
  ·rw[hres j hj e] at e1;cases e1
 ·intro j _ hjr hl'
  rcases hjr with rfl|rfl
  ·rw[ur] at hl';cases hl'
  ·exact .inl (by simp[G.put])
 ·intro j j' _ _ hj hj' hl1 hl2 _
  rcases hj with rfl|rfl
  ·rw[ur] at hl1;cases hl1
  ·rcases hj' with rfl|rfl
   ·rw[ur] at hl2;cases hl2
   ·rfl
 ·intro j m ver left cur _ _ _ hm es ver' he
  rcases hm with rfl|rfl
  ·rw[ur] at he;cases he
  ·rw[zG] at he;cases he
 ·intro e j _ hj
  rcases hj with rfl|rfl
  ·rw[ur];trivial
  ·rw[zG]
   have h1:(g.put j w.heap.size 0 c.size).mu j=w.heap.size:=if_pos rfl
   have h2:(g.put j w.heap.size 0 c.size).base j=0:=if_pos rfl
   have h3:(g.put j w.heap.size 0 c.size).ts j=c.size:=if_pos rfl
   refine⟨c,el,by rw[h1];exact zaY _ _,h3.symm,by rw[h2];omega,fun i v hv=> ?_,fun o ho=> by rw[h1];exact zaf h (Nat.le_refl _) o⟩
   obtain⟨x,hx,hvr⟩:=zab hc hv
   have hi:i < cs.length:=(List.getElem?_eq_some_iff.1 hv).1
   rw[List.getElem?_take,if_pos hi] at hx
   exact⟨x,by rw[h2,Nat.zero_add];simpa using hx,e.vr hvr⟩
 ·intro j hj hjr es ver e1
  rcases hjr with rfl|e
  ·exact absurd e1 (hnm _ _)
  ·rw[hres j hj e] at e1;cases e1
theorem zOM (h:WR g get n w) {x:V} {x':Value} (hx:vr g.I (g.at get n) x x') {cs:List V} {m:Nat} {rs:List Nat} (hs:ZC9 get x=some (cs,m,rs)) {size:Nat} (hl:cs.length=m * size):
 ∃ys:List Value,vrl g.I (g.at get n) cs ys∧(Builtin.lenOf x').run P w=.ok m w∧∀w1:World,w1.heap=w.heap→(Builtin.firstCells size m x').run P w1=.ok ys.toArray w1:=by
 unfold ZC9 at hs
 cases x with
 |nils=>
  obtain⟨rfl,rfl,_⟩:[]=cs∧0=m∧_:=by simpa using hs
  simp only[vr] at hx;subst hx
  exact⟨[],by simp[vrl],rfl,fun _ _=> rfl⟩
 |vs ds len sz own=>
  obtain⟨rfl,rfl,_⟩:ds=cs∧len=m∧_:=by simpa using hs
  simp only[vr] at hx
  obtain⟨b,o,cap,rfl,_,h2,hra,_⟩:=hx
  obtain⟨ys,h3,h4⟩:=zzb h.imm hra
  refine⟨ys,QJ (Imm.le_refl _) (At.bot_le _) h3,rfl,fun w1 hw1=> ?_⟩
  have hh:Holds w1 b o ys:=fun i y hy=> by
   have:=h4 i y hy
   unfold World.cell? at this⊢
   rw[hw1];exact this
  unfold Builtin.firstCells
  simp only
  rw[←hl,←Zg h3]
  exact hh.load
 |hs r off len cap sz ex=>
  simp only[vr] at hx
  obtain⟨a,c,rfl,hr,_,rfl,_⟩:=hx
  simp only at hs
  cases hg:get r with
  |row k ds=>
   simp only[hg] at hs
   split at hs
   ·rename_i hle
    obtain⟨rfl,rfl,_⟩:_=cs∧len=m∧_:=by simpa using hs
    obtain⟨cc,el,xs,h1,h2,h3,h4,h5,h6,h7⟩:=zkm h hr hg
    refine⟨(xs.drop off).take (len * sz),zjo (zb0 h4 off) _,rfl,fun w1 hw1=> ?_⟩
    have hh:Holds w1 (g.mu r) (g.base r+off) ((xs.drop off).take (len * sz)):=fun i y hy=> by
     have:=((h6.drop off).take (len * sz)) i y hy
     unfold World.cell? at this⊢
     rw[hw1];exact this
    unfold Builtin.firstCells
    simp only
    have e1:((xs.drop off).take (len * sz)).length=len * size:=by rw[Zg (zjo (zb0 h4 off) (len * sz))];exact hl
    rw[←e1]
    exact hh.load
   ·cases hs
  |_=> simp[hg] at hs
 |_=> cases hs
end
end
section
variable {P:Program}
section
variable {g:G} {get:Nat→Blk} {n:Nat} {w:World}
def ZFr (P:Program) (s:Sem Value) (g:G) (get:Nat→Blk) (n:Nat) (w:World) (nid:Nat) (e:Eff):Prop:=
 ∃y w' g',s.run P w=.ok y w'∧WR g' (e.upd get nid) (e.top n nid) w'∧Ext g get n w g' (e.upd get nid) (e.top n nid) w'∧vr g'.I (g'.at (e.upd get nid) (e.top n nid)) e.v y
theorem zyu:∀(l:List V),(V.seals l).length=l.length
 |[]=> rfl
 |_::l=> by simp[V.seals,zyu l]
theorem zyC {α:Type} (a b c:List α):(a++b++c).take (a.length+b.length)=a++b:=by
 rw[←List.length_append,List.take_left']
 rfl
theorem zEo (h:WR g get n w) {nid:Nat} (hf:ZDc get n nid) {cs new:List V} {xs ys:List Value} (hc:vrl g.I At.bot cs xs) (hn:vrl g.I (g.at get n) new ys) (hp:V.pures (V.seals new)=true) {len m sz cap:Nat} (hcl:cs.length=len * sz) (hnl:new.length=m * sz)
 {c rest:Array Value} (hcc:c=xs.toArray++ys.toArray++rest) (hrs:rest.size=(cap - (len+m)) * sz) (hcap:len+m≤cap) (el:TypeId) {s:Sem Value} (hrun:s.run P w=.ok (.slice (some ⟨w.heap.size,0,none⟩) (len+m) cap) ({w with drawn:=w.drawn+1}.alloc (.cells c el))) {rs:List Nat}:
 ZFr P s g get n w nid {v:=.vs (cs++V.seals new) (len+m) sz (.tok nid (len+m)),rd:=rs,nw:=[.tok (len+m)]}:=by
 have hxl:xs.length=len * sz:=by rw[Zg hc];exact hcl
 have hyl:ys.length=m * sz:=by rw[Zg hn];exact hnl
 have hM:(len+m) * sz=xs.length+ys.length:=by rw[Nat.add_mul,hxl,hyl]
 have hcs:c.size=cap * sz:=by
  have:(len+m) * sz+(cap - (len+m)) * sz=cap * sz:=zc8 hcap
  rw[hcc]
  simp only[Array.size_append,List.size_toArray,hrs]
  omega
 have hle:(len+m) * sz≤c.size:=by rw[hcs];exact Nat.mul_le_mul_right _ hcap
 have htk:c.toList.take ((len+m) * sz)=xs++ys:=by
  rw[hcc,hM];simp only[Array.toList_append];exact zyC _ _ _
 obtain⟨hW,hE⟩:=zQ1 (h.drew (w.drawn+1)) hf c el ((len+m) * sz) (len+m) hle
 have hE':=(Ext.drew g get n w (w.drawn+1)).trans hE
 refine⟨_,_,_,hrun,hW,hE',?_⟩
 have hnb:=za3 hp (zaW hn)
 simp only[vr]
 refine⟨w.heap.size,0,cap,rfl,hcap,?_,?_,?_⟩
 ·rw[List.length_append,zyu,hcl,hnl,Nat.add_mul]
 ·refine zkx (xs:=xs++ys) (QJ hE'.I_le (At.le_refl _) (QW hc hnb)) fun i x hx=> ?_
  rw[←htk] at hx
  exact zkR hx
 ·right
  show(G.at _ _ _).tok nid (len+m) w.heap.size (0+(len+m) * sz) (0+cap * sz)
  refine⟨by show nid < max n (nid+1);omega,by show upd get nid _ nid≠_;rw[zG];simp,fun hw hg=> ?_⟩
  have hg':upd get nid (.tok (len+m)) nid=.tok hw:=hg
  rw[zG] at hg'
  cases hg'
  refine⟨Nat.le_refl _,fun _=> ⟨?_,?_,?_⟩⟩
  ·simp[G.put]
  ·simp[G.put]
  ·simp[G.put,hcs]
theorem zy9 (h:WR g get n w) {nid:Nat} (hf:ZDc get n nid) {cs new:List V} {xs ys:List Value} (hc:vrl g.I (g.at get n) cs xs) (hn:vrl g.I (g.at get n) new ys) {len m sz cap:Nat} (hcl:cs.length=len * sz) (hnl:new.length=m * sz)
 {c rest:Array Value} (hcc:c=xs.toArray++ys.toArray++rest) (hrs:rest.size=(cap - (len+m)) * sz) (hcap:len+m≤cap) (el:TypeId) {s:Sem Value} (hrun:s.run P w=.ok (.slice (some ⟨w.heap.size,0,none⟩) (len+m) cap) ({w with drawn:=w.drawn+1}.alloc (.cells c el))) {rs:List Nat}:
 ZFr P s g get n w nid {v:=.hs nid 0 (len+m) (len+m) sz false,rd:=rs,nw:=[.row 0 (cs++new)]}:=by
 have hxl:xs.length=len * sz:=by rw[Zg hc];exact hcl
 have hyl:ys.length=m * sz:=by rw[Zg hn];exact hnl
 have hM:(len+m) * sz=xs.length+ys.length:=by rw[Nat.add_mul,hxl,hyl]
 have hcs:c.size=cap * sz:=by
  have:(len+m) * sz+(cap - (len+m)) * sz=cap * sz:=zc8 hcap
  rw[hcc]
  simp only[Array.size_append,List.size_toArray,hrs]
  omega
 have hle:(len+m) * sz≤c.size:=by rw[hcs];exact Nat.mul_le_mul_right _ hcap
 have hcn:(cs++new).length=(len+m) * sz:=by rw[List.length_append,hcl,hnl,Nat.add_mul]
 have htk:c.toList.take ((cs++new).length)=xs++ys:=by
  rw[hcn,hcc,hM];simp only[Array.toList_append];exact zyC _ _ _
 obtain⟨hW,hE⟩:=zXX (h.drew (w.drawn+1)) hf (cs:=cs++new) (c:=c) 0 (by rw[htk];exact QW hc hn) (by rw[hcn];exact hle) el
 refine⟨_,_,_,hrun,hW,(Ext.drew g get n w (w.drawn+1)).trans hE,?_⟩
 simp only[vr]
 refine⟨⟨w.heap.size,0,none⟩,cap,rfl,by show nid < max n (nid+1);omega,by show(upd get nid _ nid).firm=true;rw[zG];rfl,by simp[G.put],Nat.le_refl _,hcap,(by simp),?_⟩
 simp[G.put,hcs]
theorem zZa (h:WR g get n w) {nid r hw:Nat} (hr:r < n) (hg:get r=.tok hw) {cs new:List V} {ys:List Value} {b o cap len m sz:Nat} (hra:vra g.I b o cs) (hb:b=g.mu r) (hk:o+len * sz=g.base r) (hce:o+cap * sz≤g.ts r) (hcl:cs.length=len * sz)
 (hn:vrl g.I (g.at get n) new ys) (hp:V.pures (V.seals new)=true) (hone:V.ones new=true) (hnl:new.length=m * sz) (hpos:0 < m) (hcap:len+m≤cap) {s:Sem Value}
 (hrun:∀w',(storeCells ⟨b,o+len * sz,none⟩ ys).run P w=.ok () w'→s.run P w=.ok (.slice (some ⟨b,o,none⟩) (len+m) cap) w') {rs:List Nat}:
 ZFr P s g get n w nid {v:=.vs (cs++V.seals new) (len+m) sz (.tok r (hw+m)),rd:=rs,wr:=[(r,.tok (hw+m))]}:=by
 subst hb
 have hyl:ys.length=m * sz:=by rw[Zg hn];exact hnl
 have hM:(len+m) * sz=len * sz+m * sz:=Nat.add_mul _ _ _
 have hMc:(len+m) * sz≤cap * sz:=Nat.mul_le_mul_right _ hcap
 obtain⟨w',hst,hW,hE⟩:=zZs (P:=P) h hr hg (hw':=hw+m) (by omega) (zyi hone hn) (by omega)
 refine⟨_,_,_,hrun w' (by rw[hk];exact hst),hW,hE,?_⟩
 have hnb:=za3 hp (zaW hn)
 simp only[vr]
 refine⟨g.mu r,o,cap,rfl,hcap,?_,?_,?_⟩
 ·rw[List.length_append,zyu,hcl,hnl,Nat.add_mul]
 ·refine zO2 (zww hE.I_le hra) ?_
  rw[hcl,hk]
  exact zkx (QJ hE.I_le (At.le_refl _) hnb) fun i x hx=> zkR hx
 ·right
  show(G.at _ _ _).tok r (hw+m) (g.mu r) (o+(len+m) * sz) (o+cap * sz)
  refine⟨hr,by show upd get r _ r≠_;rw[zG];simp,fun hw' hg'=> ?_⟩
  have hg'':upd get r (.tok (hw+m)) r=.tok hw':=hg'
  rw[zG] at hg''
  cases hg''
  refine⟨Nat.le_refl _,fun _=> ⟨?_,?_,?_⟩⟩
  ·simp[G.put]
  ·simp only[G.put,if_true];omega
  ·simp only[G.put,if_true];exact hce
theorem zY9 (h:WR g get n w) {nid r hw:Nat} (hr:r < n) (hg:get r=.tok hw) {cs new:List V} {xs ys:List Value} (hc:vrl g.I At.bot cs xs) (hn:vrl g.I (g.at get n) new ys) (hp:V.pures (V.seals new)=true) {len m sz cap:Nat} (hcl:cs.length=len * sz) (hnl:new.length=m * sz) (hpos:0 < m)
 {c rest:Array Value} (hcc:c=xs.toArray++ys.toArray++rest) (hrs:rest.size=(cap - (len+m)) * sz) (hcap:len+m≤cap) (el:TypeId) {s:Sem Value} (hrun:s.run P w=.ok (.slice (some ⟨w.heap.size,0,none⟩) (len+m) cap) ({w with drawn:=w.drawn+1}.alloc (.cells c el))) {rs:List Nat}:
 ZFr P s g get n w nid {v:=.vs (cs++V.seals new) (len+m) sz (.tok r (hw+m)),rd:=rs,wr:=[(r,.tok (hw+m))]}:=by
 have hxl:xs.length=len * sz:=by rw[Zg hc];exact hcl
 have hyl:ys.length=m * sz:=by rw[Zg hn];exact hnl
 have hM:(len+m) * sz=xs.length+ys.length:=by rw[Nat.add_mul,hxl,hyl]
 have hcs:c.size=cap * sz:=by
  have:(len+m) * sz+(cap - (len+m)) * sz=cap * sz:=zc8 hcap
  rw[hcc]
  simp only[Array.size_append,List.size_toArray,hrs]
  omega
 have hle:(len+m) * sz≤c.size:=by rw[hcs];exact Nat.mul_le_mul_right _ hcap
 have htk:c.toList.take ((len+m) * sz)=xs++ys:=by
  rw[hcc,hM];simp only[Array.toList_append];exact zyC _ _ _
 obtain⟨hW,hE⟩:=zQ0 (h.drew (w.drawn+1)) hr hg (hw':=hw+m) (by omega) c el ((len+m) * sz) hle
 have hE':=(Ext.drew g get n w (w.drawn+1)).trans hE
 refine⟨_,_,_,hrun,hW,hE',?_⟩
 have hnb:=za3 hp (zaW hn)
 simp only[vr]
 refine⟨w.heap.size,0,cap,rfl,hcap,?_,?_,?_⟩
 ·rw[List.length_append,zyu,hcl,hnl,Nat.add_mul]
 ·refine zkx (xs:=xs++ys) (QJ hE'.I_le (At.le_refl _) (QW hc hnb)) fun i x hx=> ?_
  rw[←htk] at hx
  exact zkR hx
 ·right
  show(G.at _ _ _).tok r (hw+m) w.heap.size (0+(len+m) * sz) (0+cap * sz)
  refine⟨hr,by show upd get r _ r≠_;rw[zG];simp,fun hw' hg'=> ?_⟩
  have hg'':upd get r (.tok (hw+m)) r=.tok hw':=hg'
  rw[zG] at hg''
  cases hg''
  refine⟨Nat.le_refl _,fun _=> ⟨?_,?_,?_⟩⟩
  ·simp[G.put]
  ·simp[G.put]
  ·simp[G.put,hcs]
theorem zOt (h:WR g get n w) {nid r:Nat} (hf:ZDc get n nid) (hr:r < n) (hl:(get r).live=true) {cc:Array Value} {el:TypeId} (hh:w.heap[g.mu r]?=some (.cells cc el (0,0))) (hts:cc.size=g.ts r) {o L k:Nat} (hI:∀j,L≤j→g.I (g.mu r) j=none) (hLk:L≤o+k)
 {cs new:List V} {xs ys:List Value} (hc:vrl g.I (g.at get n) cs xs) (hx:xs=(cc.toList.drop o).take xs.length) (hn:vrl g.I (g.at get n) new ys) (hone:V.ones new=true) {len m sz cap:Nat} (hcl:cs.length=len * sz) (hnl:new.length=m * sz) (hLo:L≤o+len * sz)
 (hce:o+cap * sz≤g.ts r) (hcap:len+m≤cap) {s:Sem Value} (hrun:∀w',(storeCells ⟨g.mu r,o+len * sz,none⟩ ys).run P w=.ok () w'→s.run P w=.ok (.slice (some ⟨g.mu r,o,none⟩) (len+m) cap) w') {rs:List Nat}:
 ZFr P s g get n w nid {v:=.hs nid 0 (len+m) (len+m) sz false,rd:=rs,wr:=[(r,.gone)],nw:=[.row k (cs++new)]}:=by
 have hxl:xs.length=len * sz:=by rw[Zg hc];exact hcl
 have hyl:ys.length=m * sz:=by rw[Zg hn];exact hnl
 have hM:(len+m) * sz=len * sz+m * sz:=Nat.add_mul _ _ _
 have hMc:(len+m) * sz≤cap * sz:=Nat.mul_le_mul_right _ hcap
 have hcl':cc.toList.length=cc.size:=Array.length_toList
 have hst:=run_storeCells_at (P:=P) (g.mu r) (o+len * sz) el ys 0 cc w hh (by rw[Nat.add_zero];omega) (zyi hone hn)
 simp only[Nat.add_zero] at hst
 have hcn:(cs++new).length=(len+m) * sz:=by rw[List.length_append,hcl,hnl,Nat.add_mul]
 obtain⟨hW,hE⟩:=zXQ h hf hr hl (zX2 h hr hh) hh hts (c':=(cc.toList.take (o+len * sz)++ys++cc.toList.drop (o+len * sz+ys.length)).toArray)
  (by simp only[List.size_toArray,List.length_append,List.length_take,List.length_drop];omega) (zC0 w _ hh _) rfl rfl rfl (L:=L) (base:=o) (k:=k) hI
  (fun j hj=> by
   simp only[List.getElem?_toArray]
   rw[List.append_assoc,List.getElem?_append,if_pos (by simp only[List.length_take];omega),List.getElem?_take,if_pos (by omega)]
   simp) hLk (cs:=cs++new) (by rw[hcn];omega)
  (fun i v hv=> by
   have hi:i < (cs++new).length:=(List.getElem?_eq_some_iff.1 hv).1
   rw[hcn] at hi
   obtain⟨x,hx1,hx2⟩:=zab (QW hc hn) hv
   refine⟨x,?_,hx2⟩
   simp only[List.getElem?_toArray]
   rw[List.append_assoc,List.getElem?_append]
   have e2:(cc.toList.take (o+len * sz)).length=o+len * sz:=by simp only[List.length_take];omega
   rw[e2]
   rw[List.getElem?_append,hxl] at hx1
   by_cases hil:i < len * sz
   ·rw[if_pos hil,hx,List.getElem?_take,if_pos (by rw[hxl];exact hil),List.getElem?_drop] at hx1
    rw[if_pos (by omega),List.getElem?_take,if_pos (by omega)]
    exact hx1
   ·rw[if_neg hil] at hx1
    rw[if_neg (by omega),List.getElem?_append,if_pos (by omega),show o+i - (o+len * sz)=i - len * sz by omega]
    exact hx1)
 refine⟨_,_,_,hrun _ hst,hW,hE,?_⟩
 simp only[vr]
 refine⟨⟨g.mu r,o,none⟩,cap,rfl,by show nid < max n (nid+1);omega,by show(upd _ nid _ nid).firm=true;rw[zG];rfl,by simp[G.put],Nat.le_refl _,hcap,(by simp),?_⟩
 simp only[G.put,if_true,Nat.add_zero];exact hce
theorem zOs (h:WR g get n w) {nid r:Nat} (hf:ZDc get n nid) (hr:r < n) (hl:(get r).live=true) (hnm:∀es ver,get r≠.map es ver) {cs new:List V} {xs ys:List Value} (hc:vrl g.I (g.at get n) cs xs) (hn:vrl g.I (g.at get n) new ys) {len m sz cap:Nat} (hcl:cs.length=len * sz) (hnl:new.length=m * sz) (k:Nat)
 {c rest:Array Value} (hcc:c=xs.toArray++ys.toArray++rest) (hrs:rest.size=(cap - (len+m)) * sz) (hcap:len+m≤cap) (el:TypeId) {s:Sem Value} (hrun:s.run P w=.ok (.slice (some ⟨w.heap.size,0,none⟩) (len+m) cap) ({w with drawn:=w.drawn+1}.alloc (.cells c el))) {rs:List Nat}:
 ZFr P s g get n w nid {v:=.hs nid 0 (len+m) (len+m) sz false,rd:=rs,wr:=[(r,.gone)],nw:=[.row k (cs++new)]}:=by
 have hxl:xs.length=len * sz:=by rw[Zg hc];exact hcl
 have hyl:ys.length=m * sz:=by rw[Zg hn];exact hnl
 have hM:(len+m) * sz=xs.length+ys.length:=by rw[Nat.add_mul,hxl,hyl]
 have hcs:c.size=cap * sz:=by
  have:(len+m) * sz+(cap - (len+m)) * sz=cap * sz:=zc8 hcap
  rw[hcc]
  simp only[Array.size_append,List.size_toArray,hrs]
  omega
 have hle:(len+m) * sz≤c.size:=by rw[hcs];exact Nat.mul_le_mul_right _ hcap
 have hcn:(cs++new).length=(len+m) * sz:=by rw[List.length_append,hcl,hnl,Nat.add_mul]
 have htk:c.toList.take ((cs++new).length)=xs++ys:=by
  rw[hcn,hcc,hM];simp only[Array.toList_append];exact zyC _ _ _
 obtain⟨hW,hE⟩:=zXR (h.drew (w.drawn+1)) hf hr hl hnm c el (k:=k) (cs:=cs++new) (by rw[htk];exact QW hc hn) (by rw[hcn];exact hle)
 refine⟨_,_,_,hrun,hW,(Ext.drew g get n w (w.drawn+1)).trans hE,?_⟩
 simp only[vr]
 refine⟨⟨w.heap.size,0,none⟩,cap,rfl,by show nid < max n (nid+1);omega,by show(upd _ nid _ nid).firm=true;rw[zG];rfl,by simp[G.put],Nat.le_refl _,hcap,(by simp),?_⟩
 simp[G.put,hcs]
end
end
section
variable {P:Program}
section
variable {g:G} {get:Nat→Blk} {n:Nat} {w:World}
theorem zPu (h:WR g get n w) {nid:Nat} (hf:ZDc get n nid) {t u el:TypeId} (ht:und P t=.slice el) (hu:okU P u=true) (hint:∀k,und P u≠.int k) {hm:Bool} {s x:V} {s' x':Value} (hs:vr g.I (g.at get n) s s') (hx:vr g.I (g.at get n) x x')
 {new:List V} {m:Nat} {rs:List Nat} (hsrc:ZC9 get x=some (new,m,rs)) (hone:V.ones new=true) (hnl:new.length=m * ZmI P el) (hpos:m≠0) {e:Eff} (he:ZCY P hm get nid el s new m rs=some e) (ty:TypeId):
 ZFr P (Builtin.append_ #[t,u] ty #[s',x']) g get n w nid e:=by
 obtain⟨ys,hn,hlen,hfirst⟩:=zOM (P:=P) h hx hsrc hnl
 unfold ZCY at he
 simp only at he
 split at he
 ·cases he
 ·rename_i hz
  have hz:okZ P el=true:=by simpa using hz
  cases s with
  |nils=>
   simp only[vr] at hs;subst hs
   simp only at he
   split at he
   ·rename_i hroom
    obtain⟨cap,c,hcap,⟨rest,hcc,hrs⟩,hrun⟩:=zkE ht hu hint hz (base:=none) (sLen:=0) (sCap:=0) (ty:=ty) (w:=w) (old:=#[]) (by omega) hlen (by omega) (by rw[Nat.zero_add];exact hroom) (fun w1 _=> rfl) hfirst
    have hcc':c=([]:List Value).toArray++ys.toArray++rest:=hcc
    split at he
    ·rename_i hp
     rw[Bool.and_eq_true] at hp
     obtain rfl:=Option.some.inj he
     exact zEo h hf (cs:=[]) (xs:=[]) (by simp[vrl]) hn hp.1 (by simp) hnl hcc' hrs hcap el hrun
    ·obtain rfl:=Option.some.inj he
     exact zy9 h hf (cs:=[]) (xs:=[]) (by simp[vrl]) hn (by simp) hnl hcc' hrs hcap el hrun
   ·cases he
  |vs cs len sz own=>
   simp only[vr] at hs
   obtain⟨b,o,cap0,rfl,hlc,hcl,hra,hown⟩:=hs
   simp only at he
   split at he
   ·rename_i hc
    obtain⟨rfl,hroom⟩:=hc
    obtain⟨xs,hxv,hxh⟩:=zzb h.imm hra
    have hxl:xs.length=len * ZmI P el:=by rw[Zg hxv];exact hcl
    have hold:∀w1:World,w1.heap=w.heap→(Builtin.firstCells (ZmI P el) len (.slice (some ⟨b,o,none⟩) len cap0)).run P w1=.ok xs.toArray w1:=fun w1 hw1=> by
     have hh:Holds w1 b o xs:=fun i y hy=> by
      have:=hxh i y hy
      unfold World.cell? at this⊢
      rw[hw1];exact this
     unfold Builtin.firstCells
     simp only
     rw[←hxl]
     exact hh.load
    have hxv':=QJ (Imm.le_refl _) (At.bot_le (g.at get n)) hxv
    cases own with
    |lock=> cases he
    |tight=>
     have hct:cap0=len:=hown
     obtain⟨cap,c,hcap,⟨rest,hcc,hrs⟩,hrun⟩:=zkE ht hu hint hz (base:=some ⟨b,o,none⟩) (sLen:=len) (sCap:=cap0) (ty:=ty) (w:=w) (by omega) hlen (by omega) hroom hold hfirst
     simp only at he
     split at he
     ·rename_i hp
      rw[Bool.and_eq_true] at hp
      obtain rfl:=Option.some.inj he
      exact zEo h hf hxv hn hp.1 hcl hnl hcc hrs hcap el hrun
     ·obtain rfl:=Option.some.inj he
      exact zy9 h hf hxv' hn hcl hnl hcc hrs hcap el hrun
    |tok r e'=>
     have hr:r < n:=by rcases hown with ⟨_,_,_,_,hx⟩|hx <;> exact hx.1
     simp only at he
     cases hg:get r with
     |tok hw=>
      simp only[hg] at he
      split at he
      ·rename_i hwe
       subst hwe
       by_cases hin:len+m≤cap0
       ·have hown':(g.at get n).tok r hw b (o+len * ZmI P el) (o+cap0 * ZmI P el):=by
         rcases hown with ⟨hc,_⟩|hx
         ·omega
         ·exact hx
        obtain⟨_,htk⟩:=hown'.2.2 hw hg
        obtain⟨hb,hk,hce⟩:=htk rfl
        have hrun:∀w',(storeCells ⟨b,o+len * ZmI P el,none⟩ ys).run P w=.ok () w'→(Builtin.append_ #[t,u] ty #[.slice (some ⟨b,o,none⟩) len cap0,x']).run P w=.ok (.slice (some ⟨b,o,none⟩) (len+m) cap0) w':=fun w' hst=>
         zjs ht hu hint hz hlen hin (hfirst w rfl) (by simp only[za5];exact hst)
        split at he
        ·rename_i hp
         rw[Bool.and_eq_true] at hp
         obtain rfl:=Option.some.inj he
         exact zZa h hr hg hra hb hk hce hcl hn hp.1 hone hnl (by omega) hin hrun
        ·obtain rfl:=Option.some.inj he
         have hbl:=h.blk r hr
         rw[hg] at hbl
         obtain⟨cc,el',h1,h2,h3,h5⟩:=hbl
         subst hb
         refine zOt h hf hr (by rw[hg];rfl) h1 h2 (L:=g.base r) (k:=len * ZmI P el) h5 (by omega) hxv' ?_ hn hone hcl hnl (by omega) hce hin hrun
         apply List.ext_getElem?
         intro i
         rw[List.getElem?_take]
         by_cases hi:i < xs.length
         ·rw[if_pos hi,List.getElem?_drop]
          have hxi:=hxh i xs[i] (List.getElem?_eq_getElem hi)
          unfold World.cell? at hxi
          rw[h1] at hxi
          simp only[Option.isSome_none,Bool.false_eq_true,if_false] at hxi
          rw[List.getElem?_eq_getElem hi,Array.getElem?_toList,hxi]
         ·rw[if_neg hi,List.getElem?_eq_none (by omega)]
       ·obtain⟨cap,c,hcap,⟨rest,hcc,hrs⟩,hrun⟩:=zkE ht hu hint hz (base:=some ⟨b,o,none⟩) (sLen:=len) (sCap:=cap0) (ty:=ty) (w:=w) (by omega) hlen (by omega) hroom hold hfirst
        split at he
        ·rename_i hp
         rw[Bool.and_eq_true] at hp
         obtain rfl:=Option.some.inj he
         exact zY9 h hr hg hxv hn hp.1 hcl hnl (by omega) hcc hrs hcap el hrun
        ·obtain rfl:=Option.some.inj he
         exact zOs h hf hr (by rw[hg];rfl) (fun _ _=> by rw[hg];simp) hxv' hn hcl hnl _ hcc hrs hcap el hrun
      ·cases he
     |_=> simp[hg] at he
   ·cases he
  |hs r off len cap sz ex=>
   simp only[vr] at hs
   obtain⟨a,c0,rfl,hr,hfm,rfl,hlc,hcc0,hex,hts⟩:=hs
   simp only at he
   split at he
   ·rename_i hc
    obtain⟨rfl,hroom⟩:=hc
    cases hg:get r with
    |row k cs=>
     simp only[hg] at he
     split at he
     ·rename_i hle
      obtain⟨cc,el',xs,h1,h2,h3,h4,h5,h6,h7⟩:=zkm h hr hg
      have hsub:vrl g.I (g.at get n) ((cs.drop off).take (len * ZmI P el)) ((xs.drop off).take (len * ZmI P el)):=zjo (zb0 h4 off) _
      have hsl:((cs.drop off).take (len * ZmI P el)).length=len * ZmI P el:=by rw[List.length_take,List.length_drop];omega
      have hold:∀w1:World,w1.heap=w.heap→(Builtin.firstCells (ZmI P el) len (.slice (some ⟨g.mu r,g.base r+off,none⟩) len c0)).run P w1=.ok ((xs.drop off).take (len * ZmI P el)).toArray w1:=fun w1 hw1=> by
       have hh:Holds w1 (g.mu r) (g.base r+off) ((xs.drop off).take (len * ZmI P el)):=fun i y hy=> by
        have:=((h6.drop off).take (len * ZmI P el)) i y hy
        unfold World.cell? at this⊢
        rw[hw1];exact this
       unfold Builtin.firstCells
       simp only
       have e1:((xs.drop off).take (len * ZmI P el)).length=len * ZmI P el:=by rw[Zg hsub];exact hsl
       have:=hh.load (P:=P)
       rw[e1] at this
       exact this
      split at he
      ·rename_i hcap
       split at he
       ·rename_i hk
        cases hsp:splice cs new (off+len * ZmI P el) with
        |none=> simp[hsp] at he
        |some cs'=>
         simp only[hsp] at he
         obtain rfl:=Option.some.inj he
         obtain⟨w',hst,hW,hE⟩:=zPa (P:=P) h hr hg hk hn hone hsp
         refine⟨_,w',g,zjs ht hu hint hz hlen (by omega) (hfirst w rfl) (by simp only[za5];rw[Nat.add_assoc];exact hst),hW,hE,?_⟩
         simp only[vr]
         refine⟨_,c0,rfl,hr,by show(upd get r _ r).firm=true;rw[zG];rfl,rfl,hcap,hcc0,hex,hts⟩
       ·cases he
      ·rename_i hcap
       split at he
       ·rename_i hexx
        obtain rfl:=Option.some.inj he
        have:=hex hexx
        obtain⟨cap',c,hcap',⟨rest,hcc,hrs⟩,hrun⟩:=zkE ht hu hint hz (base:=some ⟨g.mu r,g.base r+off,none⟩) (sLen:=len) (sCap:=c0) (ty:=ty) (w:=w) (by omega) hlen (by omega) hroom hold hfirst
        exact zy9 h hf hsub hn hsl hnl hcc hrs hcap' el hrun
       ·split at he
        ·rename_i hend
         obtain⟨hend,hkl⟩:=hend
         obtain rfl:=Option.some.inj he
         have hall:(cs.drop off).take (len * ZmI P el)=cs.drop off:=List.take_of_length_le (by rw[List.length_drop];omega)
         have hallx:(xs.drop off).take (len * ZmI P el)=xs.drop off:=List.take_of_length_le (by rw[List.length_drop,Zg h4];omega)
         rw[hall,hallx] at hsub
         rw[hall] at hsl
         by_cases hin:len+m≤c0
         ·refine zOt h hf hr (by rw[hg];rfl) h1 h2 (o:=g.base r+off) (L:=g.base r+k) (k:=k - off) h7 (by omega) hsub ?_ hn hone hsl hnl ?_ hts hin (fun w' hst=> zjs ht hu hint hz hlen hin (hfirst w rfl) (by simp only[za5];exact hst))
          ·have hcl':cc.toList.length=cc.size:=Array.length_toList
           subst h5
           rw[List.drop_take,List.drop_drop,List.length_take,List.length_drop]
           rw[Nat.min_eq_left (by omega)]
          ·omega
         ·obtain⟨cap',c,hcap',⟨rest,hcc,hrs⟩,hrun⟩:=zkE ht hu hint hz (base:=some ⟨g.mu r,g.base r+off,none⟩) (sLen:=len) (sCap:=c0) (ty:=ty) (w:=w) (by omega) hlen (by omega) hroom hold hfirst
          rw[hallx] at hcc
          exact zOs h hf hr (by rw[hg];rfl) (fun _ _=> by rw[hg];simp) hsub hn hsl hnl _ hcc hrs hcap' el hrun
        ·cases he
     ·cases he
    |_=> simp[hg] at he
   ·cases he
  |_=> cases he
end
end
end
end Go.Ae
end
