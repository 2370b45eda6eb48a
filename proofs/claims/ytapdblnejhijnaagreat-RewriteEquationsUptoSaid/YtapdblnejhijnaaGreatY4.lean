/- Symbolic runs: regions, heads of loops. -/
import Derived.Test.YtapdblnejhijnaaGreatY3
set_option linter.all false
noncomputable section
namespace Go.Ae
section
section
abbrev ZPE:=SS→Nat→List A→Option (List (A×SS))
section
variable (P:Program) (KD:TypeId→Bool→List K) (hint:Hint) (known:Known) (tab:List CE) (call:ZPE)
def ZM1:Prop:=∀{ρ:Nat→V} {m:Nat→Nat} {a:SS} {f:Nat→V} {nb:Nat} {g:Nat→Blk} {fi:Nat} {xs:List A} {rs:List (A×SS)},Rel P KD ρ m a f nb g→(∀e∈tab,CE.ok P KD hint known ρ a.nx e)→A.bels a.nx a.blks.length xs=true→call a fi xs=some rs→
 ZRZ P KD hint known ρ m a f nb g fi (A.dens ρ m xs) rs
def mkC (r:Option (List (A×SS))):Option (List (A×SS×AF)):=match r with
 |some rs=> some (rs.map fun r=> (r.1,r.2,.call))
 |none=> none
def opC (n:Nat) (a:SS) (c:Call):Option (List (A×SS×AF)):=
 match c.callee with
 |.value fo=> match rdA n a fo,ZMe n a c.args.toList with
  |some (.k (.fn (.func g) l l')),some xs=> mkC (call a g (l.map .k++xs++l'.map .k))
  |some (.fn g l l'),some xs=> mkC (call a g (l++xs++l'))
  |_,_=> none
 |_=> none
variable {P KD hint known tab call}
variable {ρ:Nat→V} {m:Nat→Nat} {a:SS} {f:Nat→V} {nb n:Nat} {g:Nat→Blk} {dl:List D}
theorem ZM6 {n b:Nat}:∀{l l':List A},A.bels n b l=true→A.bels n b l'=true→A.bels n b (l++l')=true
 |[],_,_,h=> h
 |x::l,l',h,h'=> by
  have h:(x.bel n b && A.bels n b l)=true:=h
  rw[Bool.and_eq_true] at h
  show(x.bel n b && A.bels n b (l++l'))=true
  rw[h.1,ZM6 h.2 h'];rfl
theorem ZSa {n b:Nat}:∀{l:List V},A.bels n b (l.map .k)=true
 |[]=> rfl
 |_::l=> by show(true && A.bels n b (l.map .k))=true;rw[ZSa];rfl
theorem ZPB (h:Rel P KD ρ m a f nb g) (hn:n < 1048576):∀{l:List Operand} {xs:List A},ZMe n a l=some xs→A.bels a.nx a.blks.length xs=true
 |[],_,hx=> by cases hx;rfl
 |x::l,xs,hx=> by
  unfold ZMe at hx
  split at hx
  ·rename_i y ys hy hys
   cases hx
   show(y.bel _ _ && A.bels _ _ ys)=true
   rw[(ZKY h hn hy).2,ZPB h hn hys];rfl
  ·cases hx
theorem Z1Y (hcall:ZM1 P KD hint known tab call) (h:Rel P KD ρ m a f nb g) (hn:n < 1048576) (ht:∀e∈tab,CE.ok P KD hint known ρ a.nx e) {c:Call} {rs:List (A×SS×AF)} (hr:opC call n a c=some rs):
 ∃fn args e,(ZDu P c).run (mkT 20 n f)=some (.func fn args)∧V.pures (V.seals args)=true∧ZC3 hint known (EV P hint known) fn (V.seals args) nb=some [e]∧∃r∈rs,ZGK P KD ρ m a f nb g e r:=by
 have fin:∀{fi:Nat} {xs:List A} {args:List V} {rs:List (A×SS×AF)},A.bels a.nx a.blks.length xs=true→mkC (call a fi xs)=some rs→args=A.dens ρ m xs→
  V.pures (V.seals args)=true∧∃e,ZC3 hint known (EV P hint known) fi (V.seals args) nb=some [e]∧∃r∈rs,ZGK P KD ρ m a f nb g e r:=by
  intro fi xs args rs hb hm he
  subst he
  unfold mkC at hm
  split at hm
  ·rename_i rs' hrs'
   cases hm
   obtain⟨h1,e,h2,r,h3,h4⟩:=hcall h ht hb hrs'
   exact⟨h1,e,h2,_,List.mem_map_of_mem h3,h4⟩
  ·cases hm
 unfold opC at hr
 split at hr
 ·rename_i fo hc
  split at hr
  ·rename_i g' l l' xs hfo hxs
   obtain⟨h1,e,h2,h3⟩:=fin (args:=l++A.dens ρ m xs++l') (ZM6 (ZM6 ZSa (ZPB h hn hxs)) ZSa) hr (by rw[ZLa,ZLa,ZLS,ZLS])
   refine⟨g',_,e,?_,h1,h2,h3⟩
   unfold ZDu
   rw[hc]
   simp only
   rw[(ZKY h hn hfo).1,ZNX h hn hxs];rfl
  ·rename_i g' l l' xs hfo hxs
   obtain⟨hv,hbel⟩:=ZKY h hn hfo
   have hbel:(A.bels a.nx a.blks.length l && A.bels a.nx a.blks.length l')=true:=hbel
   rw[Bool.and_eq_true] at hbel
   obtain⟨h1,e,h2,h3⟩:=fin (args:=A.dens ρ m l++A.dens ρ m xs++A.dens ρ m l') (ZM6 (ZM6 hbel.1 (ZPB h hn hxs)) hbel.2) hr (by rw[ZLa,ZLa])
   refine⟨g',_,e,?_,h1,h2,h3⟩
   unfold ZDu
   rw[hc]
   simp only
   rw[hv,ZNX h hn hxs];rfl
  ·cases hr
 ·cases hr
theorem ZMB.refl {ex:Option Nat} {len:Nat}:ZMB ex len m nb g g:=fun _ _ _ _ _=> rfl
theorem Fwd.refl {ex:Option Nat}:Fwd ex a ρ m nb g a ρ m nb g:=⟨.refl,Nat.le_refl _,.same rfl,.refl,Nat.le_refl _⟩
theorem Fwd.nim {ex:Option Nat} {a1 a2:SS} {ρ1 ρ2:Nat→V} {m1 m2:Nat→Nat} {n1 n2:Nat} {g1 g2:Nat→Blk} (h:Fwd ex a1 ρ1 m1 n1 g1 a2 ρ2 m2 n2 g2) {x:Nat} (hx:x < n1) (hm:∀c,c < a1.blks.length→m1 c≠x):∀c,c < a2.blks.length→m2 c≠x:=fun c hc=> by
 by_cases hb:c < a1.blks.length
 ·rw[h.ext.m c hb];exact hm c hb
 ·have:=h.len.2 c (Nat.not_lt.1 hb) hc
  omega
theorem Fwd.trans {ex:Option Nat} {a1 a2 a3:SS} {ρ1 ρ2 ρ3:Nat→V} {m1 m2 m3:Nat→Nat} {n1 n2 n3:Nat} {g1 g2 g3:Nat→Blk} (h:Fwd ex a1 ρ1 m1 n1 g1 a2 ρ2 m2 n2 g2) (h':Fwd ex a2 ρ2 m2 n2 g2 a3 ρ3 m3 n3 g3):Fwd ex a1 ρ1 m1 n1 g1 a3 ρ3 m3 n3 g3:=
 ⟨h.ext.trans h'.ext h.nx h.len.1,Nat.le_trans h.nx h'.nx,⟨Nat.le_trans h.len.1 h'.len.1,fun b h1 h2=> by
  by_cases hb:b < a2.blks.length
  ·rw[h'.ext.m b hb];exact h.len.2 b h1 hb
  ·exact Nat.le_trans h.nb (h'.len.2 b (Nat.not_lt.1 hb) h2)⟩,fun x hx he hm ht=> by
  have e1:=h.fr x hx he hm ht
  rw[h'.fr x (Nat.lt_of_lt_of_le hx h.nb) he (h.nim hx hm) (by rw[e1];exact ht),e1],Nat.le_trans h.nb h'.nb⟩
theorem Fwd.weak {ex:Option Nat} {a1 a2:SS} {ρ1 ρ2:Nat→V} {m1 m2:Nat→Nat} {n1 n2:Nat} {g1 g2:Nat→Blk} (h:Fwd none a1 ρ1 m1 n1 g1 a2 ρ2 m2 n2 g2):Fwd ex a1 ρ1 m1 n1 g1 a2 ρ2 m2 n2 g2:=
 ⟨h.ext,h.nx,h.len,fun x hx _ hm ht=> h.fr x hx (fun hh=> by cases hh) hm ht,h.nb⟩
theorem SameS.fwd {ex:Option Nat} {a':SS} (h:SameS a a'):Fwd ex a ρ m nb g a' ρ m nb g:=⟨.refl,by rw[h.nx];exact Nat.le_refl _,.same h.blks,.refl,Nat.le_refl _⟩
theorem CE.ok.fwd {ex:Option Nat} {a':SS} {ρ':Nat→V} {m':Nat→Nat} {nb':Nat} {g':Nat→Blk} {e:CE} (h:CE.ok P KD hint known ρ a.nx e) (hf:Fwd ex a ρ m nb g a' ρ' m' nb' g'):CE.ok P KD hint known ρ' a'.nx e:=
 h.fwd1 hf.ext.r hf.nx
theorem YRel.fwd {yc:YC} {ys:YS} {a':SS} {ρ':Nat→V} {m':Nat→Nat} {nb':Nat} {g':Nat→Blk} (h:YRel yc ys ρ m a nb g) (hf:Fwd none a ρ m nb g a' ρ' m' nb' g') (hst:a'.st=a.st):YRel yc ys ρ' m' a' nb' g' where
 lt:=Nat.lt_of_lt_of_le h.lt hf.nb
 nim:=hf.nim h.lt h.nim
 blk:=by
  rw[hf.fr ys.L h.lt (fun hh=> by cases hh) h.nim (fun k hk=> by rw[h.blk] at hk;cases hk),h.blk,hst]
 regs t x hx:=by
  obtain⟨h1,h2⟩:=h.regs t x hx
  exact⟨by rw[h1,A.den_congr hf.ext.r hf.ext.m x h2],A.bel_le hf.nx hf.len.1 x h2⟩
 sym:=by rw[hf.ext.r _ h.xlt];exact h.sym
 xlt:=Nat.lt_of_lt_of_le h.xlt hf.nx
theorem YOk.fwd {y:Option YC} {ys:YS} {a':SS} {ρ':Nat→V} {m':Nat→Nat} {nb':Nat} {g':Nat→Blk} (h:YOk y ys ρ m a nb g) (hf:Fwd none a ρ m nb g a' ρ' m' nb' g') (hst:a'.st=a.st):YOk y ys ρ' m' a' nb' g':=
 fun yc hy=> (h yc hy).fwd hf hst
theorem ZKZ.fwd {ex:Option Nat} {a':SS} {ρ':Nat→V} {m':Nat→Nat} {nb':Nat} {g':Nat→Blk} (h:ZKZ dl a.blks.length m nb g) (hf:Fwd ex a ρ m nb g a' ρ' m' nb' g') (hex:∀x,ex=some x→g x≠.dfr):ZKZ dl a'.blks.length m' nb' g':=
 ⟨h.1,fun D hD=> by
  obtain⟨r,h1,h2,h3,h4⟩:=h.2 D hD
  refine⟨r,h1,Nat.lt_of_lt_of_le h2 hf.nb,hf.nim h2 h3,?_⟩
  rw[hf.fr r h2 (fun hh=> hex r hh h4) h3 (fun k hk=> by rw[h4] at hk;cases hk)]
  exact h4⟩
theorem ZZ1 {y:Option YC} {ys:YS} (h:YOk y ys ρ m a nb g):∀x,ZMm y ys=some x→g x≠.dfr:=by
 intro x hx
 cases y with
 |none=> cases hx
 |some yc=>
  cases hx
  rw[(h yc rfl).blk]
  exact fun hh=> by cases hh
def ZMV (a:SS) (d:Option Tmp) (x:A):Option SS:=
 match d with
 |none=> some a
 |some t=> cond (x.bel a.nx a.blks.length) (some (a.put t x)) none
def ZS3:A→Bool
 |.k (.tup [])=> true
 |_=> false
def ZUS (n:Nat) (a:SS) (ops:Array Oper) (o:Oper):Option (List (Bool×SS)):=
 match o.guard with
 |none=> some [(true,a)]
 |some (j,w)=> match (ops[j]?).bind (·.dst) with
  |none=> none
  |some d=> match rdA n a (.tmp d) with
   |some x=> cond (ZS3 x) (some [(false,a)]) (match truth a x with
    |some l=> some (l.map fun p=> (p.1==w,p.2))
    |none=> none)
   |none=> none
theorem Z27 (h:Rel P KD ρ m a f nb g) (hn:n < 1048576) {ops:Array Oper} {o:Oper} {l:List (Bool×SS)} (hl:ZUS n a ops o=some l):
 ∃p∈l,(ZCO ops o).run (mkT 20 n f)=p.1∧Rel P KD ρ m p.2 f nb g∧SameS a p.2:=by
 unfold ZUS at hl
 unfold ZCO
 split at hl
 ·rename_i hg
  cases hl
  rw[hg]
  exact⟨_,List.mem_cons_self ..,rfl,h,.refl⟩
 ·rename_i j w hg
  rw[hg]
  simp only
  split at hl
  ·cases hl
  ·rename_i d hd
   rw[hd]
   simp only
   split at hl
   ·rename_i x hx
    have hv:T.get ZmM (mkT 20 n f) d=x.den ρ m:=Option.some.inj (ZKY h hn hx).1
    cases hu:ZS3 x with
    |true=>
     rw[hu] at hl
     cases hl
     refine⟨_,List.mem_cons_self ..,?_,h,.refl⟩
     rw[hv]
     unfold ZS3 at hu
     split at hu
     ·rfl
     ·cases hu
    |false=>
     rw[hu] at hl
     simp only[cond_false] at hl
     split at hl
     ·rename_i l' hl'
      cases hl
      obtain⟨p,hp,e1,e2,e3⟩:=ZUO h hl'
      refine⟨_,List.mem_map_of_mem hp,?_,e2,e3⟩
      rw[hv,e1]
     ·cases hl
   ·cases hl
end
section
variable (P:Program) (KD:TypeId→Bool→List K) (hint:Hint) (known:Known) (tab:List CE) (call:ZPE)
def ZTw (fn n:Nat) (a:SS) (o:Oper):Option (List (A×SS×AF)):=
 match o.op with
 |.call c=> match c.callee with
  |.value _=> opC call n a c
  |_=> opA P KD (hint.rows fn o.dst) n a (.call c)
 |op=> opA P KD (hint.rows fn o.dst) n a op
def wanted (fn n:Nat) (o:Oper) (p:Bool×SS):Option (List (SS×AF)):=
 cond p.1 (match ZTw P KD hint call fn n p.2 o with
  |some rs=> ZLi (fun r:A×SS×AF=> match ZMV r.2.1 o.dst r.1 with
   |some a'=> some [(a',r.2.2)]
   |none=> none) rs
  |none=> none)
 (match ZMV p.2 o.dst (.k ZmM) with
  |some a'=> some [(a',.no)]
  |none=> none)
def ZRT (fn n:Nat) (ops:Array Oper) (a:SS) (o:Oper):Option (List (SS×AF)):=
 cond (ZEQ o.op) none (match ZUS n a ops o with
 |some l=> ZLi (wanted P KD hint call fn n o) l
 |none=> none)
variable {P KD hint known tab call}
variable {ρ:Nat→V} {m:Nat→Nat} {a:SS} {f:Nat→V} {nb n:Nat} {g:Nat→Blk} {dl:List D}
theorem ZRB (h:Rel P KD ρ m a f nb g) {d:Option Tmp} {x:A} {a':SS} (hp:ZMV a d x=some a'):∃f',Rel P KD ρ m a' f' nb g∧put (mkT 20 n f) d (x.den ρ m)=mkT 20 n f'∧Fwd none a ρ m nb g a' ρ m nb g∧a'.blks=a.blks:=by
 unfold ZMV at hp
 split at hp
 ·cases hp
  exact⟨f,h,rfl,.refl,rfl⟩
 ·rename_i t
  cases hb:x.bel a.nx a.blks.length with
  |false=> rw[hb] at hp;cases hp
  |true=>
   rw[hb] at hp
   cases hp
   exact⟨_,h.put hb,QU ..,⟨.refl,Nat.le_refl _,.same rfl,.refl,Nat.le_refl _⟩,rfl⟩
theorem Z1U {hm:Bool} {op:Op} {rs:List (A×SS×AF)} (hr:opA P KD hm n a op=some rs):ZFh op=true:=by
 cases op with
 |call c=>
  unfold opA at hr
  simp only at hr
  unfold ZFh
  split at hr <;> first|(rename_i hc;simp only[hc];done)|cases hr
 |_=> first|rfl|(unfold opA at hr;cases hr)
theorem Z1Z {fn:FuncId} {o:Oper} {cl:Call} (h:o.op=.call cl) (hb:∀b,cl.callee≠.builtin b) (E:Ev) (regs:T V) (get:Nat→Blk) (nid:Nat):
 (opD P hint known fn o).run E regs get nid=ZDd hint known E get nid ((ZDu P cl).run regs):=by
 unfold opD
 rw[h]
 simp only
structure Did (dl:List D) (o:Oper) (fn:FuncId) (f:Nat→V) (nb:Nat) (g:Nat→Blk) (d:List Nat) (m':Nat→Nat) (len:Nat) (af:AF) (f':Nat→V) (nb':Nat) (g':Nat→Blk) (d':List Nat) (e:Eff):Prop where
 o1:∀cx,(op1 P hint known fn o).run (EV P hint known) cx (S n f dl (mkH nb g d))=some [(.normal,S n f' dl (mkH nb' g' d'))]
 od:(opD P hint known fn o).run (EV P hint known) (mkT 20 n f) (mkH nb g d).get nb=some e
 pan:e.pan=false
 regs:put (mkT 20 n f) o.dst e.v=mkT 20 n f'
 heap:e.apply (mkH nb g d)=mkH nb' g' d'
 foot:ZN5 m' nb g e len af
theorem ZWK {d:List Nat}:∀r,r < nb→(mkH nb g d).get r=g r:=fun _ hr=> Zj hr
theorem Z1W (hcall:ZM1 P KD hint known tab call) (hKD:∀e,(KD e true).length=(KD e false).length) (h:Rel P KD ρ m a f nb g) (hn:n < 1048576) (ht:∀e∈tab,CE.ok P KD hint known ρ a.nx e) {fn:FuncId} {o:Oper} {rs:List (A×SS×AF)} (hr:ZTw P KD hint call fn n a o=some rs) (d:List Nat):
 ∃e,∃r∈rs,ZGK P KD ρ m a f nb g e r∧(∀cx,(op1 P hint known fn o).run (EV P hint known) cx (S n f dl (mkH nb g d))=some [(.normal,(S n f dl (mkH nb g d)).eff o e)])∧(opD P hint known fn o).run (EV P hint known) (mkT 20 n f) (mkH nb g d).get nb=some e:=by
 have viaA:∀rs,opA P KD (hint.rows fn o.dst) n a o.op=some rs→∃e,∃r∈rs,ZGK P KD ρ m a f nb g e r∧(∀cx,(op1 P hint known fn o).run (EV P hint known) cx (S n f dl (mkH nb g d))=some [(.normal,(S n f dl (mkH nb g d)).eff o e)])∧(opD P hint known fn o).run (EV P hint known) (mkT 20 n f) (mkH nb g d).get nb=some e:=by
  intro rs hr
  have hx:=Z1U hr
  obtain⟨e,e1,r,e2,e3⟩:=Z1V h hKD hn (get:=(mkH nb g d).get) ZWK hr
  refine⟨e,r,e2,e3,fun cx=> ?_,?_⟩
  ·rw[zOb hx]
   show(match (exec P (hint.rows fn o.dst) o.op).run (mkT 20 n f) (mkH nb g d).get nb with
    |some e=> some [(Ex.normal,(S n f dl (mkH nb g d)).eff o e)]
    |none=> none)=_
   rw[e1]
  ·rw[zOc hx];exact e1
 unfold ZTw at hr
 split at hr
 ·rename_i c hc
  split at hr
  ·rename_i fo hfo
   obtain⟨fn',args,e,e1,e2,e3,r,e4,e5⟩:=Z1Y hcall h hn ht hr
   have hb:∀b,c.callee≠.builtin b:=fun b hh=> by rw[hfo] at hh;cases hh
   have hpan:e.pan=false:=by
    obtain⟨_,_,_,_,_,_,_,_,_,_,_,hp,_⟩:=e5
    exact hp
   refine⟨e,r,e4,e5,fun cx=> ?_,?_⟩
   ·rw[zOa hc hb]
    show ZEa hint known (EV P hint known) o (S n f dl (mkH nb g d)) ((ZDu P c).run (mkT 20 n f))=_
    rw[e1]
    unfold ZEa
    simp only
    rw[if_pos e2]
    show(match ZC3 hint known (EV P hint known) fn' (V.seals args) nb with
     |.some [e]=> some [(S n f dl (mkH nb g d)).effR o e]
     |.some es=> some (es.map ((S n f dl (mkH nb g d)).effR o))
     |none=> none)=_
    rw[e3]
    show some [cond e.pan _ _]=_
    rw[hpan];rfl
   ·rw[Z1Z hc hb,e1]
    unfold ZDd
    simp only
    rw[if_pos e2,e3]
    simp only
    rw[hpan];rfl
  ·rw[←hc] at hr;exact viaA _ hr
 ·exact viaA _ hr
theorem Z0m {a a':SS} {ρ':Nat→V} {m':Nat→Nat} {nb':Nat} {g':Nat→Blk} {d d':List Nat} {e:Eff} {af:AF} (hf:ZN5 m' nb g e a'.blks.length af) (ha:e.apply (mkH nb g d)=mkH nb' g' d') (hnb:nb≤nb') (hl:ZM5 a a' m' nb) (hx:XExt a ρ m ρ' m'):ZMB none a.blks.length m nb g g':=by
 intro x hx0 _ hm0 ht
 have hm:∀c,c < a'.blks.length→m' c≠x:=fun c hc=> by
  by_cases hb:c < a.blks.length
  ·rw[hx.m c hb];exact hm0 c hb
  ·have:=hl.2 c (Nat.not_lt.1 hb) hc
   omega
 have e1:(e.apply (mkH nb g d)).get x=g' x:=by rw[ha];exact Zj (by omega)
 have n0:(mkH nb g d).get x=g x:=Zj hx0
 have n1:∀c,((mkH nb g d).new c).get x=g x:=fun c=> by
  rw[Z8,Zj (by omega),ZN _ _ (by omega)]
 have s1:∀r c,r≠x→((mkH nb g d).set r c).get x=g x:=fun r c hr=> by
  rw[zYT,Zj hx0];exact QF _ _ (Ne.symm hr)
 rw[←e1]
 unfold Eff.apply
 cases af with
 |no=> obtain⟨h1,h2,h3⟩:=hf;rw[h2,h3];exact n0
 |rd b=> obtain⟨h1,h2,h3,h4⟩:=hf;rw[h2,h3];exact n0
 |wr b=>
  obtain⟨h1,⟨c,h2⟩,h3,h4⟩:=hf
  rw[h2,h3]
  exact s1 _ c (hm b h4)
 |nw b=>
  obtain⟨h1,h2,⟨c,h3⟩,h4⟩:=hf
  rw[h2,h3]
  exact n1 c
 |call=>
  obtain⟨h1,h2,h3|⟨c,h3⟩⟩:=hf
  ·rw[h2,h3];exact n0
  ·rw[h2,h3];exact n1 c
 |ap=>
  rcases hf with ⟨h1,h2,c,h3⟩|⟨r,c,h1,h2,h3,h4,⟨k,h5⟩,h6⟩
  ·rw[h2,h3];exact n1 c
  ·rw[h2,h3]
   exact s1 r c (fun hh=> by subst hh;exact ht k h5)
theorem ZYy (hcall:ZM1 P KD hint known tab call) (hKD:∀e,(KD e true).length=(KD e false).length) (h:Rel P KD ρ m a f nb g) (hn:n < 1048576) (ht:∀e∈tab,CE.ok P KD hint known ρ a.nx e) {fn:FuncId} {ops:Array Oper} {o:Oper} {rs:List (SS×AF)} (hr:ZRT P KD hint call fn n ops a o=some rs) (d:List Nat):
 ZEQ o.op=false∧∃r∈rs,∃ρ' m' f' nb' g' d',Fwd none a ρ m nb g r.1 ρ' m' nb' g'∧Rel P KD ρ' m' r.1 f' nb' g'∧
  (((ZCO ops o).run (mkT 20 n f)=true∧∃e,Did (P:=P) (hint:=hint) (known:=known) (n:=n) dl o fn f nb g d m' r.1.blks.length r.2 f' nb' g' d' e)∨
   ((ZCO ops o).run (mkT 20 n f)=false∧put (mkT 20 n f) o.dst ZmM=mkT 20 n f'∧nb'=nb∧g'=g∧d'=d∧r.2=.no)):=by
 unfold ZRT at hr
 cases hi:ZEQ o.op with
 |true=> rw[hi] at hr;cases hr
 |false=>
  rw[hi] at hr
  simp only[cond_false] at hr
  refine⟨rfl,?_⟩
  split at hr
  ·rename_i l hl
   obtain⟨p,hp,w1,w2,w3⟩:=Z27 h hn hl
   obtain⟨s,hs,hsub⟩:=ZK8 hr hp
   unfold wanted at hs
   have hf1:Fwd none a ρ m nb g p.2 ρ m nb g:=w3.fwd
   cases hb:p.1 with
   |false=>
    rw[hb] at hs w1
    simp only[cond_false] at hs
    split at hs
    ·rename_i a' ha'
     cases hs
     obtain⟨f',q1,q2,q3,q4⟩:=ZRB (n:=n) w2 ha'
     exact⟨_,hsub _ (List.mem_cons_self ..),ρ,m,f',nb,g,d,hf1.trans q3,q1,Or.inr ⟨w1,q2,rfl,rfl,rfl,rfl⟩⟩
    ·cases hs
   |true=>
    rw[hb] at hs w1
    simp only[cond_true] at hs
    split at hs
    ·rename_i rs' hrs'
     obtain⟨e,r,v1,v2,v3,v4⟩:=Z1W hcall hKD w2 hn (fun e he=> (ht e he).fwd hf1) hrs' d
     obtain⟨s',hs',hsub'⟩:=ZK8 hs v1
     obtain⟨ρ',m',nb',g',x1,x2,x3,x4,x5,x6,x7,x8,x9⟩:=v2
     split at hs'
     ·rename_i a' ha'
      cases hs'
      obtain⟨f',q1,q2,q3,q4⟩:=ZRB (n:=n) x6 ha'
      obtain⟨d',hd'⟩:=x7 d
      have hreg:put (mkT 20 n f) o.dst e.v=mkT 20 n f':=by rw[x5];exact q2
      refine⟨_,hsub _ (hsub' _ (List.mem_cons_self ..)),ρ',m',f',nb',g',d',(hf1.trans ⟨x1,x2,x3,Z0m x9 hd' x4 x3 x1,x4⟩).trans q3,q1,Or.inl ⟨w1,e,fun cx=> ?_,v4,x8,hreg,hd',?_⟩⟩
      ·rw[v3]
       show some [(Ex.normal,St.mk (put (mkT 20 n f) o.dst e.v) dl (e.apply (mkH nb g d)))]=_
       rw[hreg,hd'];rfl
      ·show ZN5 m' nb g e a'.blks.length r.2.2
       rw[q4];exact x9
     ·cases hs'
    ·cases hs
  ·cases hr
end
section
variable (P:Program) (KD:TypeId→Bool→List K) (hint:Hint) (known:Known) (tab:List CE) (call:ZPE)
def ZRO:List Tmp→List A→List (Nat×A)→List (Nat×A)
 |t::ts,x::xs,r=> ZRO ts xs ((t,x)::r)
 |_,_,r=> r
def Z3e:E1→Option (Nat×Bool)
 |.nrm=> some (0,true)
 |.ret=> some (1,false)
 |.ext id=> some (id+2,false)
 |.vc _ _=> none
def ZUV (a:SS) (d:Option Tmp) (p:E1×SS):Option (List SS):=match Z3e p.1 with
 |some (st,b)=> match ZMV {p.2 with regs:=a.regs,st:=st} d (.k (.bool b)) with
  |some a'=> some [a']
  |none=> none
 |none=> none
def ZUW (run:RunT) (yc:YC) (a:SS) (d:Option Tmp) (xs:List A):Option (List SS):=
 match run mdI yc.fn yc.n yc.asg {a with regs:=ZRO yc.ps xs yc.regs} with
 |some [p]=> match p.1 with
  |.nrm=> match run mdI yc.fn yc.n yc.body p.2 with
   |some outs=> ZLi (ZUV a d) outs
   |none=> none
  |_=> none
 |_=> none
def ZUU (run:RunT) (md:Md) (n:Nat) (a:SS) (o:Oper):Option (List SS):=
 match md.yc,o.op,o.guard with
 |some yc,.call c,none=> match c.callee with
  |.value fo=> match rdA n a fo,ZMe n a c.args.toList with
   |some (.s x),some xs=> cond (Nat.beq x yc.x && Nat.beq a.st 0 && Nat.beq xs.length yc.ps.length && Nat.blt yc.n 1048576) (ZUW run yc a o.dst xs) none
   |_,_=> none
  |_=> none
 |_,_,_=> none
structure Mk2 where
 f:FuncId
 g:FuncId
 p0:PK
 p1:PK
def Mk2.ok (c:Mk2):Prop:=∀v0 v1,ZKO P KD c.p0 v0→ZKO P KD c.p1 v1→V.pure v0=true→V.pure v1=true→∀nb,
 ZC3 hint known (EV P hint known) c.f [v0,v1] nb=some [{v:=.fn (.func c.g) [] [.ptr (nb+1) 0,.ptr nb 0],nw:=[.row 0 v0.cells,.row 0 v1.cells]}]
def ZRt (a:SS) (d:Option Tmp) (x0 x1:A):List Mk2→Nat→Option SS
 |[],_=> none
 |c::l,f=> cond (Nat.beq c.f f) (cond (ZMJ P KD a [x0,x1] [c.p0,c.p1]) (match ZMY [x0,x1] a with
   |some ([y0,y1],a1)=> match ZM8 a1 y0,ZM8 a1 y1 with
    |some l0,some l1=> cond (A.bels a1.nx a1.blks.length l0 && A.bels a1.nx a1.blks.length l1) (ZMV ((a1.newB (some l0)).newB (some l1)) d (.fn c.g [] [.loc (a1.blks.length+1) 0,.loc a1.blks.length 0])) none
    |_,_=> none
   |_=> none) none) (ZRt a d x0 x1 l f)
def ZXr (mk:List Mk2) (n:Nat) (a:SS) (o:Oper):Option SS:=
 match o.op,o.guard with
 |.call c,none=> match c.callee with
  |.value fo=> match rdA n a fo,ZMe n a c.args.toList with
   |some (.k (.fn (.func f) [] [])),some [x0,x1]=> ZRt P KD a o.dst x0 x1 mk f
   |_,_=> none
  |_=> none
 |_,_=> none
def sxO (mk:List Mk2) (run:RunT) (md:Md) (fn n:Nat) (ops:Array Oper):List Oper→SS→Option (List SS)
 |[],a=> some [a]
 |o::os,a=> match ZUU run md n a o with
  |some as=> ZLi (fun a'=> sxO mk run md fn n ops os a') as
  |none=> match ZXr P KD mk n a o with
   |some a'=> cond (Nat.beq a'.st a.st) (sxO mk run md fn n ops os a') none
   |none=> match ZRT P KD hint call fn n ops a o with
    |some rs=> ZLi (fun r:SS×AF=> cond (Nat.beq r.1.st a.st) (sxO mk run md fn n ops os r.1) none) rs
    |none=> none
def ZU0:AF→AF→Bool
 |.no,_=> true
 |.ap,.ap=> false
 |.ap,.call=> false
 |.ap,.no=> false
 |.ap,_=> true
 |.rd _,.rd _=> true
 |.rd b,.wr c=> !Nat.beq b c
 |.rd b,.nw c=> !Nat.beq b c
 |.wr b,.rd c=> !Nat.beq b c
 |.wr b,.wr c=> !Nat.beq b c
 |.wr b,.nw c=> !Nat.beq b c
 |_,_=> true
def okA (bef:List Nat) (i:Nat) (dn:List (Nat×AF)) (af:AF):Bool:=dn.all fun p=> (bef.getD i 0).testBit p.1||ZU0 af p.2
def ZUY (len len':Nat):AF→Bool
 |.rd b=> Nat.blt b len
 |.wr b=> Nat.blt b len
 |.call=> Nat.beq len' len
 |.ap=> Nat.beq len' len
 |_=> true
def ZRC (i:Nat) (dn:List (Nat×AF)):AF→List (Nat×AF)
 |.no=> dn
 |af=> (i,af)::dn
def sxD (fn n:Nat) (ops:Array Oper) (bef:List Nat):List Oper→Nat→List (Nat×AF)→SS→Option (List SS)
 |[],_,_,a=> some [a]
 |o::os,i,dn,a=> match ZRT P KD hint call fn n ops a o with
  |some rs=> ZLi (fun r:SS×AF=> cond (okA bef i dn r.2 && ZUY a.blks.length r.1.blks.length r.2 && Nat.beq r.1.st a.st) (sxD fn n ops bef os (i+1) (ZRC i dn r.2) r.1) none) rs
  |none=> none
variable {P KD hint known tab call}
variable {n:Nat}
def ZN7 (P:Program) (KD:TypeId→Bool→List K) (md:Md) (ys:YS) (dl:List D) (a:SS) (ρ:Nat→V) (m:Nat→Nat) (nb:Nat) (g:Nat→Blk) (n:Nat) (outs:List SS) (x:Option (List (Ex×St))):Prop:=
 ∃a'∈outs,∃ρ' m' f' nb' g' d',Fwd (ZMm md.yc ys) a ρ m nb g a' ρ' m' nb' g'∧Rel P KD ρ' m' a' f' nb' g'∧YOk md.yc ys ρ' m' a' nb' g'∧x=some [(.normal,S n f' dl (mkH nb' g' d'))]
section
variable {ρ:Nat→V} {m:Nat→Nat} {a:SS} {f:Nat→V} {nb:Nat} {g:Nat→Blk} {dl:List D} {run:RunT} {md:Md} {ys:YS}
theorem ZYq {len:Nat}:∀{ts:List Tmp} {xs:List A} {r:List (Nat×A)} {f:Nat→V},(∀t x,look r t=some x→f t=x.den ρ m∧x.bel nb len=true)→A.bels nb len xs=true→∀t x,look (ZRO ts xs r) t=some x→ZMZ ts (A.dens ρ m xs) f t=x.den ρ m∧x.bel nb len=true
 |[],xs,r,f,h,_=> by cases xs <;> exact h
 |t::ts,[],r,f,h,_=> h
 |t::ts,y::xs,r,f,h,hb=> by
  have hb:(y.bel nb len && A.bels nb len xs)=true:=hb
  rw[Bool.and_eq_true] at hb
  refine ZYq (ts:=ts) (xs:=xs) (r:=(t,y)::r) (f:=at1 f t (y.den ρ m)) (fun u x hx=> ?_) hb.2
  rw[ZMO] at hx
  by_cases hu:u=t
  ·rw[if_pos hu] at hx
   cases hx
   subst hu
   exact⟨zag _ _ _,hb.1⟩
  ·rw[if_neg hu] at hx
   rw[QF _ _ hu]
   exact h u x hx
theorem ZX6 {a a':SS} {d:Option Tmp} {x:A} (h:ZMV a d x=some a'):a'.nx=a.nx∧a'.blks=a.blks∧a'.st=a.st:=by
 unfold ZMV at h
 split at h
 ·cases h;exact⟨rfl,rfl,rfl⟩
 ·rename_i t
  cases hb:x.bel a.nx a.blks.length with
  |false=> rw[hb] at h;cases h
  |true=> rw[hb] at h;cases h;exact⟨rfl,rfl,rfl⟩
theorem Z3f (hrun:ZMj P KD hint known tab run) (hn:n < 1048576) {yc:YC} (hyn:yc.n < 1048576) (h:Rel P KD ρ m a f nb g) (hy:YRel yc ys ρ m a nb g) (ht:∀e∈tab,CE.ok P KD hint known ρ a.nx e) (hst:a.st=0) {dd:Option Tmp} {xs:List A} (hxs:A.bels a.nx a.blks.length xs=true) (hlen:xs.length=yc.ps.length) {outs:List SS} (hr:ZUW run yc a dd xs=some outs) (d:List Nat):
 ∃a'∈outs,∃ρ' m' f' nb' g' d' b,Fwd (some ys.L) a ρ m nb g a' ρ' m' nb' g'∧Rel P KD ρ' m' a' f' nb' g'∧YRel yc ys ρ' m' a' nb' g'∧
  ZEi (EV P hint known) (mkH nb g d) ys.L (A.dens ρ m xs)=some [(.bool b,mkH nb' g' d')]∧put (mkT 20 n f) dd (.bool b)=mkT 20 n f':=by
 unfold ZUW at hr
 split at hr
 ·rename_i p hp
  split at hr
  ·rename_i hp1
   split at hr
   ·rename_i outs2 ho2
    have hblk:=hy.blk
    rw[hst] at hblk
    have hblk:g ys.L=.loop yc.fn (mkT 20 yc.n ys.fo) yc.ps yc.asg yc.body none .ready ys.d0:=hblk
    have h1:Rel P KD ρ m {a with regs:=ZRO yc.ps xs yc.regs} (ZMZ yc.ps (A.dens ρ m xs) ys.fo) nb g:={
     regs:=ZYq hy.regs hxs
     blks:=h.blks
     inj:=h.inj
     lt:=h.lt
     syms:=h.syms
     fs:=h.fs
     ap:=h.ap
     apn:=h.apn}
    obtain⟨q,hq,q0,ρ1,m1,f1,nb1,g1,d1,dl1,F1,R1,M1,Ec1⟩:=hrun (md:=mdI) (ys:=ys0) (dl:=[]) (dd:=d) (some ys.L) hyn (fun hh=> by cases hh) h1 (fun yc hy=> by cases hy) ⟨List.nodup_nil,fun D hD=> by cases hD⟩ ht hp (fun q hq=> by
     obtain rfl:=List.mem_singleton.1 hq
     unfold ZK7
     rw[hp1];trivial)
    obtain rfl:=List.mem_singleton.1 hq
    obtain rfl:=M1.dl rfl
    have F1:Fwd none a ρ m nb g q.2 ρ1 m1 nb1 g1:=⟨⟨F1.ext.r,F1.ext.m⟩,F1.nx,F1.len,F1.fr,F1.nb⟩
    have nim1:=F1.nim hy.lt hy.nim
    have lt1:=Nat.lt_of_lt_of_le hy.lt F1.nb
    have b1:g1 ys.L=.loop yc.fn (mkT 20 yc.n ys.fo) yc.ps yc.asg yc.body none .ready ys.d0:=by
     rw[F1.fr ys.L hy.lt (fun hh=> by cases hh) hy.nim (fun k hk=> by rw[hblk] at hk;cases hk),hblk]
    have setL:∀{ρ2:Nat→V} {m2:Nat→Nat} {a2:SS} {f2:Nat→V} {nb2:Nat} {g2:Nat→Blk} (B:Blk),Rel P KD ρ2 m2 a2 f2 nb2 g2→(∀c,c < a2.blks.length→m2 c≠ys.L)→(∀k,g2 ys.L≠.tok k)→Rel P KD ρ2 m2 a2 f2 nb2 (atB g2 ys.L B):=fun B hR hn ht=>
     hR.frame (fun b l hl=> ZN _ _ (hn b (List.getElem?_eq_some_iff.1 hl).1)) fun r k hk=> by
      rw[ZN _ _ (fun hh=> by subst hh;exact ht k hk)];exact hk
    have R1':=setL (.loop yc.fn (mkT 20 yc.n ys.fo) yc.ps yc.asg yc.body none .busy ys.d0) R1 nim1 (fun k hk=> by rw[b1] at hk;cases hk)
    obtain⟨o2,ho2m,o20,ρ2,m2,f2,nb2,g2,d2,dl2,F2,R2,M2,Ec2⟩:=hrun (md:=mdI) (ys:=ys0) (dl:=[]) (dd:=ys.L::d1) (some ys.L) hyn (fun hh=> by cases hh) R1' (fun yc hy=> by cases hy) ⟨List.nodup_nil,fun D hD=> by cases hD⟩ (fun e he=> (ht e he).fwd F1) ho2 (fun q hq=> by
     obtain⟨s,hs, -⟩:=ZK8 hr hq
     unfold ZUV at hs
     unfold ZK7
     split
     ·rename_i hq1;rw[hq1] at hs;cases hs
     ·trivial)
    obtain rfl:=M2.dl rfl
    have F2:Fwd none q.2 ρ1 m1 nb1 (atB g1 ys.L (.loop yc.fn (mkT 20 yc.n ys.fo) yc.ps yc.asg yc.body none .busy ys.d0)) o2.2 ρ2 m2 nb2 g2:=⟨⟨F2.ext.r,F2.ext.m⟩,F2.nx,F2.len,F2.fr,F2.nb⟩
    have nim2:=F2.nim lt1 nim1
    have lt2:=Nat.lt_of_lt_of_le lt1 F2.nb
    have b2:g2 ys.L=.loop yc.fn (mkT 20 yc.n ys.fo) yc.ps yc.asg yc.body none .busy ys.d0:=by
     rw[F2.fr ys.L lt1 (fun hh=> by cases hh) nim1 (fun k hk=> by rw[ZO] at hk;cases hk),ZO]
    obtain⟨s,hs,hsub⟩:=ZK8 hr ho2m
    unfold ZUV at hs
    split at hs
    ·rename_i st b hyl
     split at hs
     ·rename_i a' ha'
      cases hs
      have R3:=setL (.loop yc.fn (mkT 20 yc.n ys.fo) yc.ps yc.asg yc.body (ZMU st) (ZN1 st) ys.d0) R2 nim2 (fun k hk=> by rw[b2] at hk;cases hk)
      have nx2:a.nx≤o2.2.nx:=Nat.le_trans F1.nx F2.nx
      have len2:a.blks.length≤o2.2.blks.length:=Nat.le_trans F1.len.1 F2.len.1
      have er:∀y,y < a.nx→ρ2 y=ρ y:=fun y hy=> (F2.ext.r y (Nat.lt_of_lt_of_le hy F1.nx)).trans (F1.ext.r y hy)
      have em:∀c,c < a.blks.length→m2 c=m c:=fun c hc=> (F2.ext.m c (Nat.lt_of_lt_of_le hc F1.len.1)).trans (F1.ext.m c hc)
      have R4:Rel P KD ρ2 m2 {o2.2 with regs:=a.regs,st:=st} f nb2 (atB g2 ys.L (.loop yc.fn (mkT 20 yc.n ys.fo) yc.ps yc.asg yc.body (ZMU st) (ZN1 st) ys.d0)):={
       regs:=fun t x hx=> by
        obtain⟨r1,r2⟩:=h.regs t x hx
        exact⟨by rw[r1,A.den_congr er em x r2],A.bel_le nx2 len2 x r2⟩
       blks:=R3.blks
       inj:=R3.inj
       lt:=R3.lt
       syms:=R3.syms
       fs:=R3.fs
       ap:=R3.ap
       apn:=R3.apn}
      obtain⟨f',w1,w2,w3,w4⟩:=ZRB (n:=n) R4 ha'
      obtain⟨z1,z2,z3⟩:=ZX6 ha'
      have hF:Fwd (some ys.L) a ρ m nb g a' ρ2 m2 nb2 (atB g2 ys.L (.loop yc.fn (mkT 20 yc.n ys.fo) yc.ps yc.asg yc.body (ZMU st) (ZN1 st) ys.d0)):=by
       refine⟨⟨er,em⟩,by rw[z1];exact nx2,⟨by rw[z2];exact len2,fun c h1 h2=> ?_⟩,fun x hx he hm0 ht0=> ?_,Nat.le_trans F1.nb F2.nb⟩
       ·rw[z2] at h2
        by_cases hc:c < q.2.blks.length
        ·rw[F2.ext.m c hc];exact F1.len.2 c h1 hc
        ·exact Nat.le_trans F1.nb (F2.len.2 c (Nat.not_lt.1 hc) h2)
       ·have hxL:x≠ys.L:=fun hh=> by subst hh;exact he rfl
        have k1:=F1.fr x hx (fun hh=> by cases hh) hm0 ht0
        have k2:=F2.fr x (Nat.lt_of_lt_of_le hx F1.nb) (fun hh=> by cases hh) (F1.nim hx hm0) (by rw[ZN _ _ hxL,k1];exact ht0)
        rw[ZN _ _ hxL,k2,ZN _ _ hxL,k1]
      refine⟨a',hsub _ (List.mem_cons_self ..),ρ2,m2,f',nb2,_,ys.L::d2,b,hF,w1,?_,?_,w2⟩
      ·exact {
        lt:=lt2
        nim:=by rw[z2];exact nim2
        blk:=by rw[z3];exact ZO _ _ _
        regs:=fun t x hx=> by
         obtain⟨r1,r2⟩:=hy.regs t x hx
         exact⟨by rw[r1,A.den_congr er em x r2],by rw[z1,z2];exact A.bel_le nx2 len2 x r2⟩
        sym:=by rw[er _ hy.xlt];exact hy.sym
        xlt:=by rw[z1];exact Nat.lt_of_lt_of_le hy.xlt nx2}
      ·have e0:(mkH nb g d).get ys.L=.loop yc.fn (mkT 20 yc.n ys.fo) yc.ps yc.asg yc.body none .ready ys.d0:=by rw[Zj hy.lt];exact hblk
       have e1:(mkH nb1 g1 d1).get ys.L=.loop yc.fn (mkT 20 yc.n ys.fo) yc.ps yc.asg yc.body none .ready ys.d0:=by rw[Zj lt1];exact b1
       have e2:(mkH nb2 g2 d2).get ys.L=.loop yc.fn (mkT 20 yc.n ys.fo) yc.ps yc.asg yc.body none .busy ys.d0:=by rw[Zj lt2];exact b2
       unfold ZEi
       rw[e0]
       simp only
       rw[if_pos (by rw[ZLb,hlen]),ZTO]
       have c1:(EV P hint known).code ⟨yc.fn,some ys.L⟩ yc.asg ⟨mkT 20 yc.n (ZMZ yc.ps (A.dens ρ m xs) ys.fo),[],mkH nb g d⟩=some [(q.1.ex,S yc.n f1 [] (mkH nb1 g1 d1))]:=Ec1
       rw[c1,hp1]
       show(match (mkH nb1 g1 d1).get ys.L with
        |.loop fn' regs' params' assign' body' pend' .ready dfr'=>
         match (EV P hint known).code {fn:=yc.fn,round:=some ys.L} yc.body {S yc.n f1 [] (mkH nb1 g1 d1) with h:=(mkH nb1 g1 d1).set ys.L (.loop fn' regs' params' assign' body' pend' .busy dfr')} with
         |some outs=> ZCT (ZFu ys.L) outs
         |none=> none
        |_=> none)=_
       rw[e1]
       simp only
       rw[zYT]
       have c2:(EV P hint known).code ⟨yc.fn,some ys.L⟩ yc.body ⟨mkT 20 yc.n f1,[],mkH nb1 (at1 g1 ys.L (.loop yc.fn (mkT 20 yc.n ys.fo) yc.ps yc.asg yc.body none .busy ys.d0)) (ys.L::d1)⟩=some [(o2.1.ex,S yc.n f2 [] (mkH nb2 g2 d2))]:=Ec2
       show(match (EV P hint known).code ⟨yc.fn,some ys.L⟩ yc.body ⟨mkT 20 yc.n f1,[],mkH nb1 (at1 g1 ys.L (.loop yc.fn (mkT 20 yc.n ys.fo) yc.ps yc.asg yc.body none .busy ys.d0)) (ys.L::d1)⟩ with
        |some outs=> ZCT (ZFu ys.L) outs
        |none=> none)=_
       rw[c2]
       have c3:ZFu ys.L (o2.1.ex,S yc.n f2 [] (mkH nb2 g2 d2))=some (.bool b,mkH nb2 (atB g2 ys.L (.loop yc.fn (mkT 20 yc.n ys.fo) yc.ps yc.asg yc.body (ZMU st) (ZN1 st) ys.d0)) (ys.L::d2)):=by
        cases ho:o2.1 with
        |nrm=> rw[ho] at hyl;cases hyl;simp only[ZFu,S,E1.ex,e2,zYT];rfl
        |ret=> rw[ho] at hyl;cases hyl;simp only[ZFu,S,E1.ex,e2,zYT];rfl
        |ext id=> rw[ho] at hyl;cases hyl;simp only[ZFu,S,E1.ex,e2,zYT];rfl
        |vc Q l=> rw[ho] at hyl;cases hyl
       show ZCT _ [_]=_
       unfold ZCT
       rw[c3];rfl
     ·cases hs
    ·cases hs
   ·cases hr
  ·cases hr
 ·cases hr
theorem Z3d (hrun:ZMj P KD hint known tab run) (hn:n < 1048576) (h:Rel P KD ρ m a f nb g) (hy:YOk md.yc ys ρ m a nb g) (ht:∀e∈tab,CE.ok P KD hint known ρ a.nx e) {o:Oper} {outs:List SS} (hr:ZUU run md n a o=some outs) (d:List Nat):
 ∃a'∈outs,∃ρ' m' f' nb' g' d',Fwd (ZMm md.yc ys) a ρ m nb g a' ρ' m' nb' g'∧Rel P KD ρ' m' a' f' nb' g'∧YOk md.yc ys ρ' m' a' nb' g'∧o.guard=none∧
  ∀fn cx,(op1 P hint known fn o).run (EV P hint known) cx (S n f dl (mkH nb g d))=some [(.normal,S n f' dl (mkH nb' g' d'))]:=by
 unfold ZUU at hr
 split at hr
 ·rename_i yc c hyc hop hg
  split at hr
  ·rename_i fo hfo
   split at hr
   ·rename_i x xs hx hxs
    cases hb:Nat.beq x yc.x && Nat.beq a.st 0 && Nat.beq xs.length yc.ps.length && Nat.blt yc.n 1048576 with
    |false=> rw[hb] at hr;cases hr
    |true=>
     rw[hb] at hr
     simp only[cond_true] at hr
     rw[Bool.and_eq_true,Bool.and_eq_true,Bool.and_eq_true] at hb
     obtain⟨⟨⟨b1,b2⟩,b3⟩,b4⟩:=hb
     obtain rfl:=Nat.eq_of_beq_eq_true b1
     have hY:=hy yc hyc
     obtain⟨a',m0,ρ',m',f',nb',g',d',b,F,R,Y,E,hput⟩:=Z3f hrun hn (ZGM b4) h hY ht (Nat.eq_of_beq_eq_true b2) (ZPB h hn hxs) (Nat.eq_of_beq_eq_true b3) hr d
     refine⟨a',m0,ρ',m',f',nb',g',d',by rw[hyc];exact F,R,fun yc' hyc'=> by rw[hyc] at hyc';cases hyc';exact Y,hg,fun fn cx=> ?_⟩
     have hcb:∀b,c.callee≠.builtin b:=fun b hh=> by rw[hfo] at hh;cases hh
     rw[zOa hop hcb]
     have hcal:(ZDu P c).run (mkT 20 n f)=some (.round ys.L (A.dens ρ m xs)):=by
      unfold ZDu
      rw[hfo]
      simp only
      have e:A.den ρ m (.s yc.x)=.fn (.yield ys.L) [] []:=hY.sym
      rw[(ZKY h hn hx).1,ZNX h hn hxs,e]
     show ZEa hint known (EV P hint known) o (S n f dl (mkH nb g d)) ((ZDu P c).run (mkT 20 n f))=_
     rw[hcal]
     unfold ZEa
     simp only
     show(match ZEi (EV P hint known) (mkH nb g d) ys.L (A.dens ρ m xs) with
      |.some outs=> some (outs.map fun r=> (Ex.normal,(S n f dl (mkH nb g d)).res o r))
      |none=> none)=_
     rw[E]
     show some [(Ex.normal,St.mk (put (mkT 20 n f) o.dst (.bool b)) dl (mkH nb' g' d'))]=_
     rw[hput];rfl
   ·cases hr
  ·cases hr
 ·cases hr
end
theorem ZXs {ρ:Nat→V} {m:Nat→Nat} {a:SS} {f:Nat→V} {nb:Nat} {g:Nat→Blk} (hKD:∀e,(KD e true).length=(KD e false).length) (h:Rel P KD ρ m a f nb g) {dd:Option Tmp} {x0 x1:A} (hb:A.bels a.nx a.blks.length [x0,x1]=true) {fi:Nat} {a':SS} (d:List Nat):∀{mk:List Mk2},(∀c∈mk,Mk2.ok P KD hint known c)→ZRt P KD a dd x0 x1 mk fi=some a'→
 ∃e,V.pures (V.seals (A.dens ρ m [x0,x1]))=true∧ZC3 hint known (EV P hint known) fi (V.seals (A.dens ρ m [x0,x1])) nb=some [e]∧e.pan=false∧
  ∃ρ' m' f' nb' g',Fwd none a ρ m nb g a' ρ' m' nb' g'∧Rel P KD ρ' m' a' f' nb' g'∧put (mkT 20 n f) dd e.v=mkT 20 n f'∧e.apply (mkH nb g d)=mkH nb' g' d
 |[],_,hr=> by cases hr
 |c::l,hmk,hr=> by
  unfold ZRt at hr
  cases hf:Nat.beq c.f fi with
  |false=>
   rw[hf] at hr
   exact ZXs hKD h hb d (fun c hc=> hmk c (List.mem_cons_of_mem _ hc)) hr
  |true=>
   rw[hf] at hr
   simp only[cond_true] at hr
   obtain rfl:=Nat.eq_of_beq_eq_true hf
   cases hfit:ZMJ P KD a [x0,x1] [c.p0,c.p1] with
   |false=> rw[hfit] at hr;cases hr
   |true=>
    rw[hfit] at hr
    simp only[cond_true] at hr
    split at hr
    ·rename_i y0 y1 a1 hseal
     split at hr
     ·rename_i l0 l1 h0 h1
      cases hbl:A.bels a1.nx a1.blks.length l0 && A.bels a1.nx a1.blks.length l1 with
      |false=> rw[hbl] at hr;cases hr
      |true=>
       rw[hbl] at hr
       simp only[cond_true] at hr
       rw[Bool.and_eq_true] at hbl
       obtain⟨ρ1,s1,s2,s3,s4,s5⟩:=ZOH h hb hseal
       obtain⟨k1,k2⟩:=(ZO5 h hKD hfit).seals
       rw[s3] at k1
       obtain⟨k3,k4, -⟩:=k1
       have s4':(V.pure (y0.den ρ1 m) && (V.pure (y1.den ρ1 m) && true))=true:=s4
       rw[Bool.and_eq_true,Bool.and_eq_true] at s4'
       have hcall:=hmk c (List.mem_cons_self ..) _ _ k3 k4 s4'.1 s4'.2.1 nb
       have c0:=ZOW s2 h0
       have c1:=ZOW s2 h1
       have r1:=s2.newB (l:=some l0) (b:=.row 0 (y0.den ρ1 m).cells) fun l' hl'=> by cases hl';exact⟨hbl.1,by rw[c0]⟩
       have hlen1:(a1.newB (some l0)).blks.length=a1.blks.length+1:=by show(a1.blks++[some l0]).length=_;rw[List.length_append];rfl
       have hm1:∀c,c < a1.blks.length→at1 m a1.blks.length nb c=m c:=fun c hc=> QF _ _ (by omega)
       have r2:=r1.newB (l:=some l1) (b:=.row 0 (y1.den ρ1 m).cells) fun l' hl'=> by
        cases hl'
        refine⟨A.bels_le (Nat.le_refl _) (by rw[hlen1];exact Nat.le_succ _) _ hbl.2,?_⟩
        rw[c1,A.dens_congr (fun _ _=> rfl) hm1 l1 hbl.2]
       rw[hlen1] at r2
       obtain⟨f',w1,w2,w3,w4⟩:=ZRB (n:=n) r2 hr
       obtain⟨z1,z2,z3⟩:=ZX6 hr
       have hv:(A.fn c.g [] [.loc (a1.blks.length+1) 0,.loc a1.blks.length 0]).den ρ1 (at1 (at1 m a1.blks.length nb) (a1.blks.length+1) (nb+1))=.fn (.func c.g) [] [.ptr (nb+1) 0,.ptr nb 0]:=by
        show V.fn (.func c.g) [] [.ptr (at1 (at1 m a1.blks.length nb) (a1.blks.length+1) (nb+1) (a1.blks.length+1)) 0,.ptr (at1 (at1 m a1.blks.length nb) (a1.blks.length+1) (nb+1) a1.blks.length) 0]=_
        rw[zag,QF _ _ (by omega),zag]
       have hbl2:((a1.newB (some l0)).newB (some l1)).blks.length=a.blks.length+2:=by
        show((a1.blks++[some l0])++[some l1]).length=_
        rw[List.length_append,List.length_append,s1.blks];rfl
       refine⟨_,by rw[s3];exact s4,by rw[s3];exact hcall,rfl,ρ1,at1 (at1 m a1.blks.length nb) (a1.blks.length+1) (nb+1),f',nb+2,_,?_,w1,by rw[←hv];exact w2,?_⟩
       ·refine⟨⟨s1.r,fun c hc=> ?_⟩,by rw[z1];exact s1.nx,⟨by rw[z2,hbl2];omega,fun b h1 h2=> ?_⟩,fun x hx _ _ _=> ?_,by omega⟩
        ·rw[QF _ _ (by rw[s1.blks];omega),QF _ _ (by rw[s1.blks];omega)]
        ·rw[z2,hbl2] at h2
         rw[s1.blks]
         by_cases hb1:b=a.blks.length+1
         ·subst hb1;rw[zag];omega
         ·obtain rfl:b=a.blks.length:=by omega
          rw[QF _ _ (by omega),zag];exact Nat.le_refl _
        ·rw[ZN _ _ (by omega),ZN _ _ (by omega)]
       ·show((mkH nb g d).new _).new _=_
        rw[Z8,Z8]
     ·cases hr
    ·cases hr
theorem ZRV {mk:List Mk2} (hmk:∀c∈mk,Mk2.ok P KD hint known c) {run:RunT} (hrun:ZMj P KD hint known tab run) {md:Md} {ys:YS} {dl:List D} (hcall:ZM1 P KD hint known tab call) (hKD:∀e,(KD e true).length=(KD e false).length) {fn:FuncId} {r:Option Nat} {c:Code} (hn:n < 1048576):∀{l:List Oper} {j:Nat} {a:SS} {ρ:Nat→V} {m:Nat→Nat} {f:Nat→V} {nb:Nat} {g:Nat→Blk} {d:List Nat} {outs:List SS},
 (Zh5 c).toList.drop j=l→Rel P KD ρ m a f nb g→YOk md.yc ys ρ m a nb g→(∀e∈tab,CE.ok P KD hint known ρ a.nx e)→sxO P KD hint call mk run md fn n (Zh5 c) l a=some outs→
 ZN7 P KD md ys dl a ρ m nb g n outs (Qo P hint known c j ⟨fn,r⟩ (S n f dl (mkH nb g d)))
 |[],j,a,ρ,m,f,nb,g,d,outs,hl,h,hy,ht,hr=> by
  cases hr
  exact⟨a,List.mem_cons_self ..,ρ,m,f,nb,g,d,.refl,h,hy,zc hl _⟩
 |o::l,j,a,ρ,m,f,nb,g,d,outs,hl,h,hy,ht,hr=> by
  unfold sxO at hr
  have hl':(Zh5 c).toList.drop (j+1)=l:=by
   have:=congrArg List.tail hl
   rw[List.tail_drop] at this
   exact this
  split at hr
  ·rename_i as has
   obtain⟨a1,ha1,ρ',m',f',nb',g',d',hf,hrel,hy',hg,hop⟩:=Z3d (dl:=dl) hrun hn h hy ht has d
   obtain⟨s,hs,hsub⟩:=ZK8 hr ha1
   obtain⟨a2,i1,ρ2,m2,f2,nb2,g2,d2,i2,i3,iy,i4⟩:=ZRV hmk hrun hcall hKD (fn:=fn) (r:=r) (j:=j+1) (d:=d') hn hl' hrel hy' (fun e he=> (ht e he).fwd hf) hs
   refine⟨a2,hsub _ i1,ρ2,m2,f2,nb2,g2,d2,hf.trans i2,i3,iy,?_⟩
   rw[zkA hl]
   have hw':(ZCO (Zh5 c) o).run (S n f dl (mkH nb g d)).regs=true:=by
    unfold ZCO
    rw[hg]
   rw[hw',if_pos rfl,hop,ZF]
   exact i4
  ·split at hr
   ·rename_i a1 ha1
    cases hst:Nat.beq a1.st a.st with
    |false=> rw[hst] at hr;cases hr
    |true=>
    rw[hst] at hr
    simp only[cond_true] at hr
    unfold ZXr at ha1
    split at ha1
    ·rename_i c' hop hg
     split at ha1
     ·rename_i fo hfo
      split at ha1
      ·rename_i fi x0 x1 hx hxs
       obtain⟨e,e1,e2,e3,ρ',m',f',nb',g',hf,hrel,hput,hheap⟩:=ZXs (n:=n) hKD h (ZPB h hn hxs) d hmk ha1
       have hy':=hy.fwd hf (Nat.eq_of_beq_eq_true hst)
       obtain⟨a2,i1,ρ2,m2,f2,nb2,g2,d2,i2,i3,iy,i4⟩:=ZRV hmk hrun hcall hKD (fn:=fn) (r:=r) (j:=j+1) (d:=d) hn hl' hrel hy' (fun e he=> (ht e he).fwd hf) hr
       refine⟨a2,i1,ρ2,m2,f2,nb2,g2,d2,hf.weak.trans i2,i3,iy,?_⟩
       rw[zkA hl]
       have hw':(ZCO (Zh5 c) o).run (S n f dl (mkH nb g d)).regs=true:=by
        unfold ZCO
        rw[hg]
       have hcb:∀b,c'.callee≠.builtin b:=fun b hh=> by rw[hfo] at hh;cases hh
       have hcal:(ZDu P c').run (mkT 20 n f)=some (.func fi (A.dens ρ m [x0,x1])):=by
        unfold ZDu
        rw[hfo]
        simp only
        rw[(ZKY h hn hx).1,ZNX h hn hxs]
        show some (Callee1.func fi ([]++A.dens ρ m [x0,x1]++[]))=_
        rw[List.nil_append,List.append_nil]
       have hop1:(op1 P hint known fn o).run (EV P hint known) ⟨fn,r⟩ (S n f dl (mkH nb g d))=some [(.normal,S n f' dl (mkH nb' g' d))]:=by
        rw[zOa hop hcb]
        show ZEa hint known (EV P hint known) o (S n f dl (mkH nb g d)) ((ZDu P c').run (mkT 20 n f))=_
        rw[hcal]
        unfold ZEa
        simp only
        rw[if_pos e1]
        show(match ZC3 hint known (EV P hint known) fi (V.seals (A.dens ρ m [x0,x1])) nb with
         |some [e]=> some [(S n f dl (mkH nb g d)).effR o e]
         |some es=> some (es.map ((S n f dl (mkH nb g d)).effR o))
         |none=> none)=_
        rw[e2]
        show some [cond e.pan _ _]=_
        rw[e3]
        show some [(Ex.normal,St.mk (put (mkT 20 n f) o.dst e.v) dl (e.apply (mkH nb g d)))]=_
        rw[hput,hheap];rfl
       rw[hw',if_pos rfl,hop1,ZF]
       exact i4
      ·cases ha1
     ·cases ha1
    ·cases ha1
   split at hr
   ·rename_i rs hrs
    obtain⟨-,p,hp,ρ',m',f',nb',g',d',hf,hrel,hcase⟩:=ZYy (dl:=dl) hcall hKD h hn ht hrs d
    obtain⟨s,hs,hsub⟩:=ZK8 hr hp
    cases hst:Nat.beq p.1.st a.st with
    |false=> rw[hst] at hs;cases hs
    |true=>
    rw[hst] at hs
    have hy':=hy.fwd hf (Nat.eq_of_beq_eq_true hst)
    obtain⟨a2,i1,ρ2,m2,f2,nb2,g2,d2,i2,i3,iy,i4⟩:=ZRV hmk hrun hcall hKD (fn:=fn) (r:=r) (j:=j+1) (d:=d') hn hl' hrel hy' (fun e he=> (ht e he).fwd hf) hs
    refine⟨a2,hsub _ i1,ρ2,m2,f2,nb2,g2,d2,hf.weak.trans i2,i3,iy,?_⟩
    rw[zkA hl]
    rcases hcase with ⟨hw,e,hd⟩|⟨hw,hput,e1,e2,e3,e4⟩
    ·have hw':(ZCO (Zh5 c) o).run (S n f dl (mkH nb g d)).regs=true:=hw
     rw[hw',if_pos rfl,hd.o1,ZF]
     exact i4
    ·have hw':(ZCO (Zh5 c) o).run (S n f dl (mkH nb g d)).regs=false:=hw
     rw[hw',if_neg (by simp)]
     have hS:(⟨put (mkT 20 n f) o.dst ZmM,dl,mkH nb g d⟩:St)=S n f' dl (mkH nb' g' d'):=by rw[hput,e1,e2,e3];rfl
     show Qo P hint known c (j+1) ⟨fn,r⟩ ⟨put (mkT 20 n f) o.dst ZmM,dl,mkH nb g d⟩=_
     rw[hS]
     exact i4
   ·cases hr
def ZM3 (m:Nat→Nat) (nb len:Nat) (ft:Foot):AF→Prop
 |.no=> False
 |.rd b=> ft=⟨[m b],[]⟩∧b < len
 |.wr b=> ft=⟨[m b],[m b]⟩∧b < len
 |.nw b=> ft=⟨[],[m b]⟩∧b < len
 |.call=> ∃k,ft=⟨[],[k]⟩∧k < nb∧∀b,b < len→m b≠k
 |.ap=> ∃k,(ft=⟨[],[k]⟩∨ft=⟨[k],[k]⟩)∧k < nb∧∀b,b < len→m b≠k
def ZM2 (m:Nat→Nat) (nb len:Nat) (dn:List (Nat×Foot)) (da:List (Nat×AF)):Prop:=∀p∈dn,∃q∈da,q.1=p.1∧ZM3 m nb len p.2 q.2
theorem ZM3.fwd {a a':SS} {ρ ρ':Nat→V} {m m':Nat→Nat} {nb nb':Nat} {ft:Foot} {af:AF} (h:ZM3 m nb a.blks.length ft af) {g g':Nat→Blk} (hf:Fwd none a ρ m nb g a' ρ' m' nb' g'):ZM3 m' nb' a'.blks.length ft af:=by
 cases af with
 |no=> exact h
 |ap=>
  obtain⟨k,h1,h2,h3⟩:=h
  refine⟨k,h1,Nat.lt_of_lt_of_le h2 hf.nb,fun b hb=> ?_⟩
  by_cases hlt:b < a.blks.length
  ·rw[hf.ext.m b hlt];exact h3 b hlt
  ·have:=hf.len.2 b (Nat.not_lt.1 hlt) hb
   omega
 |rd b=> exact⟨by rw[hf.ext.m b h.2];exact h.1,Nat.lt_of_lt_of_le h.2 hf.len.1⟩
 |wr b=> exact⟨by rw[hf.ext.m b h.2];exact h.1,Nat.lt_of_lt_of_le h.2 hf.len.1⟩
 |nw b=> exact⟨by rw[hf.ext.m b h.2];exact h.1,Nat.lt_of_lt_of_le h.2 hf.len.1⟩
 |call=>
  obtain⟨k,h1,h2,h3⟩:=h
  refine⟨k,h1,Nat.lt_of_lt_of_le h2 hf.nb,fun b hb=> ?_⟩
  by_cases hlt:b < a.blks.length
  ·rw[hf.ext.m b hlt];exact h3 b hlt
  ·have:=hf.len.2 b (Nat.not_lt.1 hlt) hb
   omega
theorem ZM2.fwd {a a':SS} {ρ ρ':Nat→V} {m m':Nat→Nat} {nb nb':Nat} {dn:List (Nat×Foot)} {da:List (Nat×AF)} (h:ZM2 m nb a.blks.length dn da) {g g':Nat→Blk} (hf:Fwd none a ρ m nb g a' ρ' m' nb' g'):ZM2 m' nb' a'.blks.length dn da:=
 fun p hp=> by
  obtain⟨q,h1,h2,h3⟩:=h p hp
  exact⟨q,h1,h2,h3.fwd hf⟩
theorem ZOB {b c:Nat} (h:(!Nat.beq b c)=true):b≠c:=fun hh=> by subst hh;rw[Nat.beq_refl] at h;cases h
theorem ZZu {m:Nat→Nat} {nb len len':Nat} (inj:∀b c,b < len'→c < len'→m b=m c→b=c) (hlt:∀b,b < len→m b < nb) (hll:len≤len') {g:Nat→Blk} {e:Eff} {af:AF} (hf:ZN5 m nb g e len' af) (hnw:∀b,af=.rd b∨af=.wr b→b < len) {ft:Foot} {af':AF} (he:ZM3 m nb len ft af') (ha:ZU0 af af'=true):(e.foot nb).apart ft=true:=by
 have ff:e.foot nb=⟨e.rd,e.wr.map (·.1)++ZEl nb e.nw⟩:=rfl
 rw[ff]
 cases af with
 |ap=>
  rcases hf with ⟨h1,h2,c0,h3⟩|⟨r,c0,h1,h2,h3,h4, -,h5⟩
  ·rw[h1,h2,h3]
   cases af' with
   |no=> exact he.elim
   |ap=> cases ha
   |call=> cases ha
   |rd c=> have:=hlt c he.2;rw[he.1];simp[Foot.apart,apart,ZEl];omega
   |wr c=> have:=hlt c he.2;rw[he.1];simp[Foot.apart,apart,ZEl];omega
   |nw c=> have:=hlt c he.2;rw[he.1];simp[Foot.apart,apart,ZEl];omega
  ·rw[h1,h2,h3]
   cases af' with
   |no=> exact he.elim
   |ap=> cases ha
   |call=> cases ha
   |rd c=> have:=h5 c (Nat.lt_of_lt_of_le he.2 hll);rw[he.1];simp[Foot.apart,apart,ZEl];omega
   |wr c=> have:=h5 c (Nat.lt_of_lt_of_le he.2 hll);rw[he.1];simp[Foot.apart,apart,ZEl];omega
   |nw c=> have:=h5 c (Nat.lt_of_lt_of_le he.2 hll);rw[he.1];simp[Foot.apart,apart,ZEl];omega
 |no=> obtain⟨h1,h2,h3⟩:=hf;rw[h1,h2,h3];simp[Foot.apart,apart,ZEl]
 |rd b=>
  obtain⟨h1,h2,h3,h4⟩:=hf
  rw[h1,h2,h3]
  have hb:=hnw b (Or.inl rfl)
  cases af' with
  |no=> exact he.elim
  |ap=> obtain⟨k,e1|e1,e2,e3⟩:=he <;> (have hne:=e3 b hb;rw[e1];simp[Foot.apart,apart,ZEl,hne])
  |rd c=> rw[he.1];simp[Foot.apart,apart,ZEl]
  |wr c=>
   have hne:m b≠m c:=fun hh=> ZOB ha (inj b c h4 (Nat.lt_of_lt_of_le he.2 hll) hh)
   rw[he.1];simp[Foot.apart,apart,ZEl,hne]
  |nw c=>
   have hne:m b≠m c:=fun hh=> ZOB ha (inj b c h4 (Nat.lt_of_lt_of_le he.2 hll) hh)
   rw[he.1];simp[Foot.apart,apart,ZEl,hne]
  |call=>
   obtain⟨k,e1,e2,e3⟩:=he
   have hne:=e3 b hb
   rw[e1];simp[Foot.apart,apart,ZEl,hne]
 |wr b=>
  obtain⟨h1,⟨c0,h2⟩,h3,h4⟩:=hf
  rw[h1,h2,h3]
  have hb:=hnw b (Or.inr rfl)
  cases af' with
  |no=> exact he.elim
  |ap=> obtain⟨k,e1|e1,e2,e3⟩:=he <;> (have hne:=e3 b hb;rw[e1];simp[Foot.apart,apart,ZEl,hne])
  |rd c=>
   have hne:m b≠m c:=fun hh=> ZOB ha (inj b c h4 (Nat.lt_of_lt_of_le he.2 hll) hh)
   rw[he.1];simp[Foot.apart,apart,ZEl,hne]
  |wr c=>
   have hne:m b≠m c:=fun hh=> ZOB ha (inj b c h4 (Nat.lt_of_lt_of_le he.2 hll) hh)
   rw[he.1];simp[Foot.apart,apart,ZEl,hne]
  |nw c=>
   have hne:m b≠m c:=fun hh=> ZOB ha (inj b c h4 (Nat.lt_of_lt_of_le he.2 hll) hh)
   rw[he.1];simp[Foot.apart,apart,ZEl,hne]
  |call=>
   obtain⟨k,e1,e2,e3⟩:=he
   have hne:=e3 b hb
   rw[e1];simp[Foot.apart,apart,ZEl,hne]
 |nw b=>
  obtain⟨h1,h2,⟨c0,h3⟩,h4,h5⟩:=hf
  rw[h1,h2,h3]
  cases af' with
  |no=> exact he.elim
  |ap=> obtain⟨k,e1|e1,e2,e3⟩:=he <;> (rw[e1];simp[Foot.apart,apart,ZEl];omega)
  |rd c=> have:=hlt c he.2;rw[he.1];simp[Foot.apart,apart,ZEl];omega
  |wr c=> have:=hlt c he.2;rw[he.1];simp[Foot.apart,apart,ZEl];omega
  |nw c=> have:=hlt c he.2;rw[he.1];simp[Foot.apart,apart,ZEl];omega
  |call=> obtain⟨k,e1,e2,e3⟩:=he;rw[e1];simp[Foot.apart,apart,ZEl];omega
 |call=>
  obtain⟨h1,h2,h3|⟨c0,h3⟩⟩:=hf
  ·rw[h1,h2,h3];simp[Foot.apart,apart,ZEl]
  ·rw[h1,h2,h3]
   cases af' with
   |no=> exact he.elim
   |ap=> obtain⟨k,e1|e1,e2,e3⟩:=he <;> (rw[e1];simp[Foot.apart,apart,ZEl];omega)
   |rd c=> have:=hlt c he.2;rw[he.1];simp[Foot.apart,apart,ZEl];omega
   |wr c=> have:=hlt c he.2;rw[he.1];simp[Foot.apart,apart,ZEl];omega
   |nw c=> have:=hlt c he.2;rw[he.1];simp[Foot.apart,apart,ZEl];omega
   |call=> obtain⟨k,e1,e2,e3⟩:=he;rw[e1];simp[Foot.apart,apart,ZEl];omega
theorem Z2z {s:St} {d:Option Tmp} {i:Nat} {bef:List Nat} {dn:List (Nat×Foot)} {e:Eff} {k:List (Nat×Foot)→St→Option (List (Ex×St))} (hp:e.pan=false) (hok:(dn.all fun p=> (bef.getD i 0).testBit p.1||(e.foot s.h.n).apart p.2)=true):
 ∃dn',((dn'=dn∧e.rd=[]∧e.wr=[]∧e.nw=[])∨(dn'=(i,e.foot s.h.n)::dn∧¬(e.rd=[]∧e.wr=[]∧e.nw=[])))∧ZhW s d i bef dn (some e) k=k dn' {s with regs:=put s.regs d e.v,h:=e.apply s.h}:=by
 obtain⟨v,rd,wr,nw,pan⟩:=e
 have hp:pan=false:=hp
 subst hp
 have gen:∀e:Eff,(dn.all fun p=> (bef.getD i 0).testBit p.1||(e.foot s.h.n).apart p.2)=true→cond (dn.all fun p=> (bef.getD i 0).testBit p.1||(e.foot s.h.n).apart p.2) (k ((i,e.foot s.h.n)::dn) {s with regs:=put s.regs d e.v,h:=e.apply s.h}) none=k ((i,e.foot s.h.n)::dn) {s with regs:=put s.regs d e.v,h:=e.apply s.h}:=fun e he=> by rw[he];rfl
 rcases rd with _|⟨r,rd⟩
 ·rcases wr with _|⟨w,wr⟩
  ·rcases nw with _|⟨b,nw⟩
   ·exact⟨dn,Or.inl ⟨rfl,rfl,rfl,rfl⟩,rfl⟩
   ·exact⟨_,Or.inr ⟨rfl,fun hh=> by cases hh.2.2⟩,gen _ hok⟩
  ·exact⟨_,Or.inr ⟨rfl,fun hh=> by cases hh.2.1⟩,gen _ hok⟩
 ·exact⟨_,Or.inr ⟨rfl,fun hh=> by cases hh.1⟩,gen _ hok⟩
theorem ZTW {md:Md} {ys:YS} {dl:List D} (hcall:ZM1 P KD hint known tab call) (hKD:∀e,(KD e true).length=(KD e false).length) {fn:FuncId} {r:Option Nat} {c:Code} {bef:List Nat} (hn:n < 1048576):∀{l:List Oper} {j:Nat} {a:SS} {ρ:Nat→V} {m:Nat→Nat} {f:Nat→V} {nb:Nat} {g:Nat→Blk} {d:List Nat} {outs:List SS} {dn:List (Nat×Foot)} {da:List (Nat×AF)},
 (Zh5 c).toList.drop j=l→Rel P KD ρ m a f nb g→YOk md.yc ys ρ m a nb g→(∀e∈tab,CE.ok P KD hint known ρ a.nx e)→ZM2 m nb a.blks.length dn da→sxD P KD hint call fn n (Zh5 c) bef l j da a=some outs→
 ZN7 P KD md ys dl a ρ m nb g n outs (Qd P hint known c bef j ⟨fn,r⟩ dn (S n f dl (mkH nb g d)))
 |[],j,a,ρ,m,f,nb,g,d,outs,dn,da,hl,h,hy,ht,hd,hr=> by
  cases hr
  exact⟨a,List.mem_cons_self ..,ρ,m,f,nb,g,d,.refl,h,hy,JJ hl _ _⟩
 |o::l,j,a,ρ,m,f,nb,g,d,outs,dn,da,hl,h,hy,ht,hd,hr=> by
  unfold sxD at hr
  split at hr
  ·rename_i rs hrs
   have hl':(Zh5 c).toList.drop (j+1)=l:=by
    have:=congrArg List.tail hl
    rw[List.tail_drop] at this
    exact this
   obtain⟨hins,p,hp,ρ',m',f',nb',g',d',hf,hrel,hcase⟩:=ZYy (dl:=dl) hcall hKD h hn ht hrs d
   obtain⟨s,hs,hsub⟩:=ZK8 hr hp
   cases hb:okA bef j da p.2 && ZUY a.blks.length p.1.blks.length p.2 && Nat.beq p.1.st a.st with
   |false=> rw[hb] at hs;cases hs
   |true=>
    rw[hb] at hs
    simp only[cond_true] at hs
    rw[Bool.and_eq_true] at hb
    have hy':=hy.fwd hf (Nat.eq_of_beq_eq_true hb.2)
    have hb:=hb.1
    rw[Bool.and_eq_true] at hb
    have hnl:(Zh5 c).toList.drop j=o::l:=hl
    rcases hcase with ⟨hw,e,hd1⟩|⟨hw,hput,rfl,rfl,rfl,haf⟩
    ·have hok:(dn.all fun q=> (bef.getD j 0).testBit q.1||(e.foot nb).apart q.2)=true:=by
      rw[List.all_eq_true]
      intro q hq
      obtain⟨q',h1,h2,h3⟩:=hd q hq
      have h4:=List.all_eq_true.1 hb.1 q' h1
      rw[Bool.or_eq_true] at h4⊢
      rw[h2] at h4
      rcases h4 with h4|h4
      ·exact Or.inl h4
      ·refine Or.inr (ZZu (len:=a.blks.length) (len':=p.1.blks.length) hrel.inj (fun b hlt=> by rw[hf.ext.m b hlt];exact h.lt b hlt) hf.len.1 hd1.foot (fun b hh=> ?_) (ft:=q.2) (af':=q'.2) ?_ h4)
       ·have h5:=hb.2
        rcases hh with hh|hh
        ·rw[hh] at h5;exact ZGM h5
        ·rw[hh] at h5;exact ZGM h5
       ·have key:∀{af:AF},ZM3 m nb a.blks.length q.2 af→ZM3 m' nb a.blks.length q.2 af:=by
         intro af he
         cases af with
         |no=> exact he
         |ap=>
          obtain⟨k,e1,e2,e3⟩:=he
          exact⟨k,e1,e2,fun b hb=> by rw[hf.ext.m b hb];exact e3 b hb⟩
         |rd b=> exact⟨by rw[hf.ext.m b he.2];exact he.1,he.2⟩
         |wr b=> exact⟨by rw[hf.ext.m b he.2];exact he.1,he.2⟩
         |nw b=> exact⟨by rw[hf.ext.m b he.2];exact he.1,he.2⟩
         |call=>
          obtain⟨k,e1,e2,e3⟩:=he
          exact⟨k,e1,e2,fun b hb=> by rw[hf.ext.m b hb];exact e3 b hb⟩
        exact key h3
     obtain⟨dn',hdn',hst⟩:=Z2z (s:=S n f dl (mkH nb g d)) (d:=o.dst) (i:=j) (bef:=bef) (dn:=dn) (e:=e) (k:=Qd P hint known c bef (j+1) ⟨fn,r⟩) hd1.pan hok
     have hdo:ZM2 m' nb' p.1.blks.length dn' (ZRC j da p.2):=by
      have hbase:ZM2 m' nb' p.1.blks.length dn (ZRC j da p.2):=fun q hq=> by
       obtain⟨q',h1,h2,h3⟩:=hd.fwd hf q hq
       refine⟨q',?_,h2,h3⟩
       cases hp2:p.2 <;> first|exact h1|exact List.mem_cons_of_mem _ h1
      rcases hdn' with ⟨rfl, -⟩|⟨rfl,hne⟩
      ·exact hbase
      ·intro q hq
       rcases List.mem_cons.1 hq with rfl|hq
       ·have hft:=hd1.foot
        have hfe:e.foot (S n f dl (mkH nb g d)).h.n=⟨e.rd,e.wr.map (·.1)++ZEl nb e.nw⟩:=rfl
        rw[hfe]
        cases hp2:p.2 with
        |ap=>
         rw[hp2] at hft
         have hlen:=hb.2
         rw[hp2] at hlen
         have hlen:=Nat.eq_of_beq_eq_true hlen
         rcases hft with ⟨e1,e2,c0,e3⟩|⟨r0,c0,e1,e2,e3,e4, -,e5⟩
         ·refine⟨_,List.mem_cons_self ..,rfl,nb,Or.inl (by rw[e1,e2,e3];rfl),?_,fun b hbl=> ?_⟩
          ·have hh:=congrArg H.n hd1.heap
           unfold Eff.apply at hh
           rw[e2,e3] at hh
           have hh:nb+1=nb':=hh
           omega
          ·rw[hlen] at hbl
           rw[hf.ext.m b hbl]
           have:=h.lt b hbl
           omega
         ·exact⟨_,List.mem_cons_self ..,rfl,r0,Or.inr (by rw[e1,e2,e3];rfl),Nat.lt_of_lt_of_le e4 hf.nb,e5⟩
        |no=> rw[hp2] at hft;exact absurd hft hne
        |rd b=>
         rw[hp2] at hft
         obtain⟨e1,e2,e3,e4⟩:=hft
         exact⟨_,List.mem_cons_self ..,rfl,by rw[e1,e2,e3];rfl,e4⟩
        |wr b=>
         rw[hp2] at hft
         obtain⟨e1,⟨c0,e2⟩,e3,e4⟩:=hft
         exact⟨_,List.mem_cons_self ..,rfl,by rw[e1,e2,e3];rfl,e4⟩
        |nw b=>
         rw[hp2] at hft
         obtain⟨e1,e2,⟨c0,e3⟩,e4,e5⟩:=hft
         exact⟨_,List.mem_cons_self ..,rfl,by rw[e1,e2,e3,e4];rfl,e5⟩
        |call=>
         rw[hp2] at hft
         have hlen:=hb.2
         rw[hp2] at hlen
         have hlen:=Nat.eq_of_beq_eq_true hlen
         obtain⟨e1,e2,e3|⟨c0,e3⟩⟩:=hft
         ·exact absurd ⟨e1,e2,e3⟩ hne
         ·refine⟨_,List.mem_cons_self ..,rfl,nb,by rw[e1,e2,e3];rfl,?_,fun b hbl=> ?_⟩
          ·have hh:=congrArg H.n hd1.heap
           unfold Eff.apply at hh
           rw[e2,e3] at hh
           have hh:nb+1=nb':=hh
           omega
          ·rw[hlen] at hbl
           rw[hf.ext.m b hbl]
           have:=h.lt b hbl
           omega
       ·exact hbase q hq
     obtain⟨a2,i1,ρ2,m2,f2,nb2,g2,d2,i2,i3,iy,i4⟩:=ZTW hcall hKD (fn:=fn) (r:=r) (bef:=bef) (j:=j+1) (d:=d') hn hl' hrel hy' (fun e he=> (ht e he).fwd hf) hdo hs
     refine⟨a2,hsub _ i1,ρ2,m2,f2,nb2,g2,d2,hf.weak.trans i2,i3,iy,?_⟩
     rw[zyH hnl hins]
     have hw':(ZCO (Zh5 c) o).run (S n f dl (mkH nb g d)).regs=true:=hw
     rw[hw',if_pos rfl]
     have hod:(opD P hint known fn o).run (EV P hint known) (S n f dl (mkH nb g d)).regs (S n f dl (mkH nb g d)).h.get (S n f dl (mkH nb g d)).h.n=some e:=hd1.od
     rw[hod,hst]
     have:({S n f dl (mkH nb g d) with regs:=put (S n f dl (mkH nb g d)).regs o.dst e.v,h:=e.apply (S n f dl (mkH nb g d)).h}:St)=S n f' dl (mkH nb' g' d'):=by
      show St.mk (put (mkT 20 n f) o.dst e.v) dl (e.apply (mkH nb g d))=_
      rw[hd1.regs,hd1.heap];rfl
     rw[this]
     exact i4
    ·have hdo:ZM2 m' nb' p.1.blks.length dn (ZRC j da p.2):=by
      rw[haf]
      exact hd.fwd hf
     obtain⟨a2,i1,ρ2,m2,f2,nb2,g2,d2,i2,i3,iy,i4⟩:=ZTW hcall hKD (fn:=fn) (r:=r) (bef:=bef) (j:=j+1) (d:=d') hn hl' hrel hy' (fun e he=> (ht e he).fwd hf) hdo hs
     refine⟨a2,hsub _ i1,ρ2,m2,f2,nb2,g2,d2,hf.weak.trans i2,i3,iy,?_⟩
     rw[zyH hnl hins]
     have hw':(ZCO (Zh5 c) o).run (S n f dl (mkH nb' g' d')).regs=false:=hw
     rw[hw',if_neg (by simp)]
     show Qd P hint known c bef (j+1) ⟨fn,r⟩ dn ⟨put (mkT 20 n f) o.dst ZmM,dl,mkH nb' g' d'⟩=_
     rw[hput]
     exact i4
  ·cases hr
end
end
section
inductive LQ where
 |o (q:Q)
 |v (t c:Nat)
 |l (t c:Nat)
 |r (t c:Nat)
 |bv (b c:Nat)
 |bl (b c:Nat)
 |br (b c:Nat)
 |n (t c:Nat)
 |bn (b c:Nat)
def LQ.val (ρ:Nat→V) (f:Nat→V) (w:Nat→List V):LQ→Int
 |.o q=> q.val ρ
 |.v t c=> V.intN (cellC (f t) c)
 |.l t c=> (V.lenN (cellC (f t) c):Nat)
 |.r t c=> (V.rk (cellC (f t) c):Nat)
 |.bv b c=> V.intN ((w b).getD c ZmM)
 |.bl b c=> (V.lenN ((w b).getD c ZmM):Nat)
 |.br b c=> (V.rk ((w b).getD c ZmM):Nat)
 |.n t c=> -((V.rk (cellC (f t) c):Nat):Int)
 |.bn b c=> -((V.rk ((w b).getD c ZmM):Nat):Int)
def ZGJ (g:Nat→Blk) (m:Nat→Nat) (b:Nat):List V:=match g (m b) with
 |.row _ cs=> cs
 |_=> []
def rnL (a:SS):A→Option (Q×Int)
 |.s x=> cond (ZFS a x).isSome (some (.n x,0)) none
 |_=> none
def ZLl (a:SS):LQ→Option (Q×Int)
 |.o q=> cond (q.bel a.nx) (some (q,0)) none
 |.v t c=> match look a.regs t with
  |some x=> match ZLR x c with
   |some y=> ZKT a y
   |none=> none
  |none=> none
 |.l t c=> match look a.regs t with
  |some x=> match ZLR x c with
   |some y=> ZMM a y
   |none=> none
  |none=> none
 |.r t c=> match look a.regs t with
  |some x=> match ZLR x c with
   |some y=> rkL a y
   |none=> none
  |none=> none
 |.bv b c=> match a.blks[b]? with
  |some (some l)=> match l[c]? with
   |some y=> ZKT a y
   |none=> none
  |_=> none
 |.bl b c=> match a.blks[b]? with
  |some (some l)=> match l[c]? with
   |some y=> ZMM a y
   |none=> none
  |_=> none
 |.br b c=> match a.blks[b]? with
  |some (some l)=> match l[c]? with
   |some y=> rkL a y
   |none=> none
  |_=> none
 |.n t c=> match look a.regs t with
  |some x=> match ZLR x c with
   |some y=> rnL a y
   |none=> none
  |none=> none
 |.bn b c=> match a.blks[b]? with
  |some (some l)=> match l[c]? with
   |some y=> rnL a y
   |none=> none
  |_=> none
inductive LA where
 |tm (u:Nat)
 |rw (b:Nat)
 |ov (x:A)
def LA.val (ρ f:Nat→V) (w:Nat→List V):LA→V
 |.tm u=> f u
 |.rw b=> .agg (w b)
 |.ov x=> x.den ρ (fun _=> 0)
structure Plan where
 ds:List Nat
 lv:List (Nat×PK×Nat)
 bl:List (Nat×List K)
 ka:List Nat
 iv:List (LQ×LQ×Int)
 rfs:List (Nat×TypeId×Nat)
 mp:LQ
 mq:LQ
 ps:List ((List V→Prop)×List LA)
def ZLT (ds:List Nat):List (Nat×A)→List (Nat×A)
 |[]=> []
 |p::l=> cond (ZKK ds p.1) (ZLT ds l) (p::ZLT ds l)
def ZOZ:List (Nat×List K)→List (Option (List A))→List (Option (List A))
 |[],l=> l
 |p::bl,l=> ZOZ bl (l.set p.1 none)
def headA (pl:Plan) (a:SS):SS:={a with regs:=ZLT pl.ds a.regs,blks:=ZOZ pl.bl a.blks,ap:=pl.ka}
def ZMK (t:Nat) (p:PK) (md:Nat) (a:SS):SS:=
 let r:=ZKr (Nat.beq md 0) p a
 cond (Nat.beq md 2) {(r.2.put t r.1) with ap:=a.nx::r.2.ap} (r.2.put t r.1)
def ZPc:List (Nat×PK×Nat)→SS→SS
 |[],a=> a
 |(t,p,md)::l,a=> ZPc l (ZMK t p md a)
def ZPb:List (Nat×List K)→SS→SS
 |[],a=> a
 |(b,ks)::l,a=> ZPb l ((ZKu ks none a).2.setB b (ZKu ks none a).1)
def ivF (a:SS) (c:LQ×LQ×Int):List Fact:=
 match ZLl a c.1,ZLl a c.2.1 with
 |some (p,i),some (q,j)=> [.c p q (c.2.2 - i+j)]
 |_,_=> []
def rfF (a:SS) (c:Nat×TypeId×Nat):List Fact:=
 match ZLl a (.v c.2.2 0) with
 |some (q,k)=> [.rf c.1 c.2.1 q k]
 |_=> []
def ZL6 (a:SS):List LA→Option (List A)
 |[]=> some []
 |.tm t::l=> match look a.regs t,ZL6 a l with
  |some x,some xs=> some (x::xs)
  |_,_=> none
 |.rw b::l=> match a.blks[b]?,ZL6 a l with
  |some (some x),some xs=> some (.agg x::xs)
  |_,_=> none
 |.ov x::l=> match ZL6 a l with
  |some xs=> some (x::xs)
  |none=> none
def psF (a:SS) (c:(List V→Prop)×List LA):List Fact:=
 match ZL6 a c.2 with
 |some l=> cond (A.bels a.nx 0 l) [.pr c.1 l] []
 |none=> []
def ZOp (pl:Plan) (a:SS):SS:=ZPb pl.bl (ZPc pl.lv (headA pl a))
def head (pl:Plan) (a:SS):SS:=knows (pl.ps.flatMap (psF (ZOp pl a))++(pl.iv.flatMap (ivF (ZOp pl a))++pl.rfs.flatMap (rfF (ZOp pl a)))) (ZOp pl a)
section
variable {P:Program} {KD:TypeId→Bool→List K}
variable {ρ:Nat→V} {m:Nat→Nat} {a:SS} {f:Nat→V} {nb n:Nat} {g:Nat→Blk}
theorem ZL7 (h:Rel P KD ρ m a f nb g) {p:LQ} {q:Q} {k:Int} (hp:ZLl a p=some (q,k)):p.val ρ f (ZGJ g m)=q.val ρ+k∧q.bel a.nx=true:=by
 have row:∀{b:Nat} {l:List A} {c:Nat} {y:A},a.blks[b]?=some (some l)→l[c]?=some y→(ZGJ g m b).getD c ZmM=y.den ρ m:=by
  intro b l c y hb hc
  unfold ZGJ
  rw[(h.blks b l hb).1]
  show(A.dens ρ m l).getD c ZmM=_
  rw[List.getD_eq_getElem?_getD,ZLp,hc];rfl
 have sym:∀{x:Nat} {kk:K},ZFS a x=some kk→∀c,cellC (ρ x) c=ρ x:=fun hk c=> (ZGN h hk).1.cellC c
 unfold ZLl at hp
 split at hp
 ·rename_i q'
  cases hb:q'.bel a.nx with
  |false=> rw[hb] at hp;cases hp
  |true=>
   rw[hb] at hp
   cases hp
   exact⟨(Int.add_zero _).symm,hb⟩
 ·rename_i t c
  split at hp
  ·rename_i x hx
   split at hp
   ·rename_i y hy
    obtain⟨i,N,h1,h2,h3⟩:=ZMN h hp
    refine⟨?_,h3⟩
    show V.intN (cellC (f t) c)=_
    rw[(h.regs t x hx).1]
    have e:cellC (x.den ρ m) c=y.den ρ m:=by
     rcases ZOV (ρ:=ρ) (m:=m) hy with e|⟨x',rfl,rfl⟩
     ·exact e
     ·unfold ZKT at hp
      simp only at hp
      split at hp
      ·rename_i kk hk;exact sym hk c
      ·cases hp
    rw[e,h1,←h2];rfl
   ·cases hp
  ·cases hp
 ·rename_i t c
  split at hp
  ·rename_i x hx
   split at hp
   ·rename_i y hy
    obtain⟨h1,h2⟩:=ZTg h hp
    refine⟨?_,h2⟩
    show((V.lenN (cellC (f t) c):Nat):Int)=_
    rw[(h.regs t x hx).1]
    have e:cellC (x.den ρ m) c=y.den ρ m:=by
     rcases ZOV (ρ:=ρ) (m:=m) hy with e|⟨x',rfl,rfl⟩
     ·exact e
     ·unfold ZMM at hp
      simp only at hp
      split at hp
      ·rename_i hk;exact sym hk c
      ·rename_i hk;exact sym hk c
      ·cases hp
    rw[e];exact h1
   ·cases hp
  ·cases hp
 ·rename_i t c
  split at hp
  ·rename_i x hx
   split at hp
   ·rename_i y hy
    unfold rkL at hp
    split at hp
    ·rename_i x'
     cases hk:ZFS a x' with
     |none=> rw[hk] at hp;cases hp
     |some kk=>
      rw[hk] at hp
      cases hp
      obtain⟨ht,hlt⟩:=ZGN h hk
      refine⟨?_,ZKy hlt⟩
      show((V.rk (cellC (f t) c):Nat):Int)=((V.rk (ρ x'):Nat):Int)+0
      rw[(h.regs t x hx).1]
      have e:cellC (x.den ρ m) c=ρ x':=by
       rcases ZOV (ρ:=ρ) (m:=m) hy with e|⟨x'',rfl,e2⟩
       ·exact e
       ·cases e2
        exact sym hk c
      rw[e];omega
    ·cases hp
   ·cases hp
  ·cases hp
 ·rename_i b c
  split at hp
  ·rename_i l hl
   split at hp
   ·rename_i y hy
    obtain⟨i,N,h1,h2,h3⟩:=ZMN h hp
    refine⟨?_,h3⟩
    show V.intN ((ZGJ g m b).getD c ZmM)=_
    rw[row hl hy,h1,←h2];rfl
   ·cases hp
  ·cases hp
 ·rename_i b c
  split at hp
  ·rename_i l hl
   split at hp
   ·rename_i y hy
    obtain⟨h1,h2⟩:=ZTg h hp
    refine⟨?_,h2⟩
    show((V.lenN ((ZGJ g m b).getD c ZmM):Nat):Int)=_
    rw[row hl hy];exact h1
   ·cases hp
  ·cases hp
 ·rename_i b c
  split at hp
  ·rename_i l hl
   split at hp
   ·rename_i y hy
    unfold rkL at hp
    split at hp
    ·rename_i x'
     cases hk:ZFS a x' with
     |none=> rw[hk] at hp;cases hp
     |some kk=>
      rw[hk] at hp
      cases hp
      refine⟨?_,ZKy (ZGN h hk).2⟩
      show((V.rk ((ZGJ g m b).getD c ZmM):Nat):Int)=((V.rk (ρ x'):Nat):Int)+0
      rw[row hl hy]
      show((V.rk (ρ x'):Nat):Int)=_
      omega
    ·cases hp
   ·cases hp
  ·cases hp
 ·rename_i t c
  split at hp
  ·rename_i x hx
   split at hp
   ·rename_i y hy
    unfold rnL at hp
    split at hp
    ·rename_i x'
     cases hk:ZFS a x' with
     |none=> rw[hk] at hp;cases hp
     |some kk=>
      rw[hk] at hp
      cases hp
      obtain⟨ht,hlt⟩:=ZGN h hk
      refine⟨?_,ZKy hlt⟩
      show -((V.rk (cellC (f t) c):Nat):Int)= -((V.rk (ρ x'):Nat):Int)+0
      rw[(h.regs t x hx).1]
      have e:cellC (x.den ρ m) c=ρ x':=by
       rcases ZOV (ρ:=ρ) (m:=m) hy with e|⟨x'',rfl,e2⟩
       ·exact e
       ·cases e2
        exact sym hk c
      rw[e];omega
    ·cases hp
   ·cases hp
  ·cases hp
 ·rename_i b c
  split at hp
  ·rename_i l hl
   split at hp
   ·rename_i y hy
    unfold rnL at hp
    split at hp
    ·rename_i x'
     cases hk:ZFS a x' with
     |none=> rw[hk] at hp;cases hp
     |some kk=>
      rw[hk] at hp
      cases hp
      refine⟨?_,ZKy (ZGN h hk).2⟩
      show -((V.rk ((ZGJ g m b).getD c ZmM):Nat):Int)= -((V.rk (ρ x'):Nat):Int)+0
      rw[row hl hy]
      show -((V.rk (ρ x'):Nat):Int)=_
      omega
    ·cases hp
   ·cases hp
  ·cases hp
theorem ZSs {ds:List Nat}:∀{l:List (Nat×A)} {t:Nat} {x:A},look (ZLT ds l) t=some x→look l t=some x
 |[],t,x,h=> by cases h
 |(u,y)::l,t,x,h=> by
  unfold ZLT at h
  rw[ZMO]
  cases hm:ZKK ds u with
  |true=>
   rw[hm] at h
   have h:look (ZLT ds l) t=some x:=h
   have hne:t≠u:=by
    intro he
    subst he
    have:∀l:List (Nat×A),look (ZLT ds l) t=none:=by
     intro l
     induction l with
     |nil=> rfl
     |cons p l ih=>
      obtain⟨v,z⟩:=p
      unfold ZLT
      cases hv:ZKK ds v with
      |true=> exact ih
      |false=>
       show look ((v,z)::ZLT ds l) t=none
       rw[ZMO,if_neg (fun hh=> by subst hh;rw[hm] at hv;cases hv)]
       exact ih
    have:=(this l).symm.trans (by assumption:look (ZLT ds l) t=some x)
    cases this
   rw[if_neg hne]
   exact ZSs h
  |false=>
   rw[hm] at h
   have h:look ((u,y)::ZLT ds l) t=some x:=h
   rw[ZMO] at h
   by_cases he:t=u
   ·rw[if_pos he] at h⊢;exact h
   ·rw[if_neg he] at h⊢;exact ZSs h
theorem ZP2:∀{bl:List (Nat×List K)} {l:List (Option (List A))},(ZOZ bl l).length=l.length
 |[],_=> rfl
 |p::bl,l=> by
  show(ZOZ bl (l.set p.1 none)).length=_
  rw[ZP2,List.length_set]
theorem ZVs:∀{bl:List (Nat×List K)} {l:List (Option (List A))} {b:Nat} {x:List A},(ZOZ bl l)[b]?=some (some x)→l[b]?=some (some x)
 |[],_,_,_,h=> h
 |p::bl,l,b,x,h=> by
  have h:=ZVs (l:=l.set p.1 none) h
  rw[List.getElem?_set] at h
  by_cases he:p.1=b
  ·rw[if_pos he] at h
   split at h <;> cases h
  ·rw[if_neg he] at h;exact h
structure LvOk (P:Program) (KD:TypeId→Bool→List K) (nb:Nat) (g:Nat→Blk) (p:Nat×PK×Nat) (v:V):Prop where
 k:ZKO P KD p.2.1 v
 pu:(p.2.2=0∨∃cs,v=.agg cs)→V.pure v=true
 ap:p.2.2=2→ZLg v nb g∧∃k,p.2.1=.one k
def Apart (ρ:Nat→V) (f:Nat→V) (ka:List Nat):List (Nat×PK×Nat)→Prop
 |[]=> True
 |p::l=> (p.2.2=2→(∀x∈ka,∀r,ZCj (f p.1)=some r→ZCj (ρ x)≠some r)∧∀q∈l,q.2.2=2→∀r,ZCj (f p.1)=some r→ZCj (f q.1)≠some r)∧Apart ρ f ka l
theorem Z0o (h:Rel P KD ρ m a f nb g) {t:Nat} {p:PK} {md:Nat} (hv:LvOk P KD nb g (t,p,md) (f t)) (hd:md=2→∀x∈a.ap,∀r,ZCj (f t)=some r→ZCj (ρ x)≠some r):
 ∃ρ',(∀y,y < a.nx→ρ' y=ρ y)∧Rel P KD ρ' m (ZMK t p md a) f nb g∧a.nx≤(ZMK t p md a).nx∧(ZMK t p md a).blks=a.blks∧
  ∀y∈(ZMK t p md a).ap,y∈a.ap∨(md=2∧ρ' y=f t):=by
 obtain⟨ρ1,a1,a2,a3,a4,a5,a6,a7⟩:=ZO7 h (pu:=Nat.beq md 0) hv.k fun hh=> hv.pu (by
  rcases hh with hh|hh
  ·exact Or.inl (Nat.eq_of_beq_eq_true hh)
  ·exact Or.inr hh)
 have h2:=a2.put (t:=t) (x:=(ZKr (Nat.beq md 0) p a).1) (by rw[a5];exact a6)
 rw[a3] at h2
 have hf:at1 f t (f t)=f:=funext fun j=> by
  by_cases hj:j=t
  ·subst hj;exact zag _ _ _
  ·exact QF _ _ hj
 rw[hf] at h2
 unfold ZMK
 cases hm:Nat.beq md 2 with
 |false=>
  refine⟨ρ1,a1,h2,a4,a5,fun y hy=> Or.inl ?_⟩
  have hy:y∈(ZKr (Nat.beq md 0) p a).2.ap:=hy
  rw[a7] at hy;exact hy
 |true=>
  have hm:=Nat.eq_of_beq_eq_true hm
  subst hm
  obtain⟨o1,k,o2⟩:=hv.ap rfl
  have o2:p=.one k:=o2
  subst o2
  have hnx:ρ1 a.nx=f t:=a3
  have hlt:a.nx < (ZKr (Nat.beq 2 0) (.one k) a).2.nx:=Nat.lt_succ_self _
  refine⟨ρ1,a1,h2.addAp hlt (by rw[hnx];exact o1) ?_,a4,a5,fun y hy=> ?_⟩
  ·intro y hy r hr
   have hy:y∈a.ap:=by
    have hy:y∈(ZKr (Nat.beq 2 0) (.one k) a).2.ap:=hy
    rw[a7] at hy;exact hy
   rw[hnx] at hr
   rw[a1 y (h.ap y hy).1]
   exact hd rfl y hy r hr
  ·rcases List.mem_cons.1 hy with rfl|hy
   ·exact Or.inr ⟨rfl,hnx⟩
   ·have hy:y∈(ZKr (Nat.beq 2 0) (.one k) a).2.ap:=hy
    rw[a7] at hy
    exact Or.inl hy
theorem ZWQ:∀{l:List (Nat×PK×Nat)} {a:SS} {ρ:Nat→V},Rel P KD ρ m a f nb g→(∀p∈l,LvOk P KD nb g p (f p.1))→Apart ρ f a.ap l→
 ∃ρ',(∀y,y < a.nx→ρ' y=ρ y)∧Rel P KD ρ' m (ZPc l a) f nb g∧a.nx≤(ZPc l a).nx∧(ZPc l a).blks=a.blks
 |[],a,ρ,h,_,_=> ⟨ρ,fun _ _=> rfl,h,Nat.le_refl _,rfl⟩
 |(t,p,md)::l,a,ρ,h,hv,hd=> by
  obtain⟨ρ1,a1,a2,a3,a4,a5⟩:=Z0o h (hv _ (List.mem_cons_self ..)) fun hm=> (hd.1 hm).1
  have hd':Apart ρ1 f (ZMK t p md a).ap l:=by
   have:∀{l':List (Nat×PK×Nat)},(∀q∈l',q∈l)→Apart ρ f a.ap l'→Apart ρ1 f (ZMK t p md a).ap l':=by
    intro l'
    induction l' with
    |nil=> intro _ _;trivial
    |cons q l' ih=>
     intro hsub hq
     refine⟨fun hq2=> ⟨fun x hx r hr=> ?_,(hq.1 hq2).2⟩,ih (fun q' hq'=> hsub q' (List.mem_cons_of_mem _ hq')) hq.2⟩
     rcases a5 x hx with hx|⟨hmd,hx⟩
     ·rw[a1 x (h.ap x hx).1]
      exact(hq.1 hq2).1 x hx r hr
     ·rw[hx]
      exact fun hh=> (hd.1 hmd).2 q (hsub q (List.mem_cons_self ..)) hq2 r hh hr
   exact this (fun _ hq=> hq) hd.2
  obtain⟨ρ2,b1,b2,b3,b4⟩:=ZWQ (l:=l) a2 (fun q hq=> hv q (List.mem_cons_of_mem _ hq)) hd'
  exact⟨ρ2,fun y hy=> (b1 y (Nat.lt_of_lt_of_le hy a3)).trans (a1 y hy),b2,Nat.le_trans a3 b3,b4.trans a4⟩
def ZR1 (P:Program) (KD:TypeId→Bool→List K) (m:Nat→Nat) (len:Nat) (g:Nat→Blk) (p:Nat×List K):Prop:=p.1 < len∧∃cs,g (m p.1)=.row 0 cs∧TKs P KD p.2 cs∧V.pures cs=true
theorem ZWP:∀{l:List (Nat×List K)} {a:SS} {ρ:Nat→V},Rel P KD ρ m a f nb g→(∀p∈l,ZR1 P KD m a.blks.length g p)→
 ∃ρ',(∀y,y < a.nx→ρ' y=ρ y)∧Rel P KD ρ' m (ZPb l a) f nb g∧a.nx≤(ZPb l a).nx∧(ZPb l a).blks.length=a.blks.length
 |[],a,ρ,h,_=> ⟨ρ,fun _ _=> rfl,h,Nat.le_refl _,rfl⟩
 |(b,ks)::l,a,ρ,h,hv=> by
  obtain⟨hb,cs,hg,ht,hp⟩:=hv _ (List.mem_cons_self ..)
  obtain⟨ρ1,a1,a2,a3,a4,a5,a6,a7⟩:=ZP9 (p:=none) h ht hp fun q hq=> by cases hq
  have h2:=a2.setB (b:=b) (l:=(ZKu ks none a).1) (by rw[a5];exact hb) ⟨_,_,hg⟩ (by rw[a4,a6];exact ZSb _ _ (Nat.le_refl _))
  rw[a3] at h2
  have hg':atB g (m b) (.row 0 cs)=g:=funext fun j=> by
   by_cases hj:j=m b
   ·subst hj;rw[ZO];exact hg.symm
   ·exact ZN _ _ hj
  rw[hg'] at h2
  have hlen:((ZKu ks none a).2.setB b (ZKu ks none a).1).blks.length=a.blks.length:=by
   show((ZKu ks none a).2.blks.set b _).length=_
   rw[List.length_set,a5]
  have hnx:((ZKu ks none a).2.setB b (ZKu ks none a).1).nx=a.nx+ks.length:=a4
  obtain⟨ρ2,b1,b2,b3,b4⟩:=ZWP (l:=l) h2 fun q hq=> by rw[hlen];exact hv q (List.mem_cons_of_mem _ hq)
  exact⟨ρ2,fun y hy=> (b1 y (by rw[hnx];omega)).trans (a1 y hy),b2,Nat.le_trans (by rw[hnx];omega) b3,b4.trans hlen⟩
structure Inv (P:Program) (KD:TypeId→Bool→List K) (ρ:Nat→V) (m:Nat→Nat) (pl:Plan) (a:SS) (f:Nat→V) (nb:Nat) (g:Nat→Blk):Prop where
 rel:Rel P KD ρ m (headA pl a) f nb g
 lv:∀p∈pl.lv,LvOk P KD nb g p (f p.1)
 ap:Apart ρ f pl.ka pl.lv
 bl:∀p∈pl.bl,ZR1 P KD m a.blks.length g p
 iv:∀c∈pl.iv,c.1.val ρ f (ZGJ g m) - c.2.1.val ρ f (ZGJ g m)≤c.2.2
 rfs:∀c∈pl.rfs,∀cs len sz o,ρ c.1=.vs cs len sz o→∀N:Nat,(N:Int) < (LQ.v c.2.2 0).val ρ f (ZGJ g m)→N < len→∃a b,cs.drop (N * sz)=a++b∧TKs P KD (KD c.2.1 true) a
 ps:∀c∈pl.ps,c.1 (c.2.map (LA.val ρ f (ZGJ g m)))
def LQ.old (n b:Nat):LQ→Bool
 |.o q=> q.bel n
 |.bv c _=> Nat.blt c b
 |.bl c _=> Nat.blt c b
 |.br c _=> Nat.blt c b
 |.bn c _=> Nat.blt c b
 |_=> true
def LA.old (n b:Nat):LA→Bool
 |.ov x=> x.bel n 0
 |.rw c=> Nat.blt c b
 |_=> true
def ZMv (pl:Plan) (a:SS):Bool:=pl.ps.all (fun c=> c.2.all (LA.old a.nx a.blks.length)) && pl.iv.all (fun c=> c.1.old a.nx a.blks.length && c.2.1.old a.nx a.blks.length) && pl.rfs.all (fun c=> Nat.blt c.1 a.nx) && pl.mp.old a.nx a.blks.length && pl.mq.old a.nx a.blks.length
theorem LQ.old_val {ρ':Nat→V} {m':Nat→Nat} {n b:Nat} (hr:∀y,y < n→ρ' y=ρ y) (hm:∀c,c < b→m' c=m c) {p:LQ} (hp:p.old n b=true):p.val ρ' f (ZGJ g m')=p.val ρ f (ZGJ g m):=by
 have hw:∀c,c < b→ZGJ g m' c=ZGJ g m c:=fun c hc=> by unfold ZGJ;rw[hm c hc]
 cases p with
 |o q=> exact Q.val_congr hp hr
 |bv c k=> show V.intN ((ZGJ g m' c).getD k ZmM)=_;rw[hw c (ZGM hp)];rfl
 |bl c k=> show((V.lenN ((ZGJ g m' c).getD k ZmM):Nat):Int)=_;rw[hw c (ZGM hp)];rfl
 |br c k=> show((V.rk ((ZGJ g m' c).getD k ZmM):Nat):Int)=_;rw[hw c (ZGM hp)];rfl
 |bn c k=> show -((V.rk ((ZGJ g m' c).getD k ZmM):Nat):Int)=_;rw[hw c (ZGM hp)];rfl
 |_=> rfl
theorem LA.old_val {ρ':Nat→V} {m':Nat→Nat} {n b:Nat} (hr:∀y,y < n→ρ' y=ρ y) (hm:∀c,c < b→m' c=m c):∀{l:List LA},l.all (LA.old n b)=true→l.map (LA.val ρ' f (ZGJ g m'))=l.map (LA.val ρ f (ZGJ g m))
 |[],_=> rfl
 |x::l,hl=> by
  rw[List.all_cons,Bool.and_eq_true] at hl
  rw[List.map_cons,List.map_cons,LA.old_val hr hm hl.2]
  cases x with
  |tm t=> rfl
  |rw c=> show V.agg (ZGJ g m' c)::_=V.agg (ZGJ g m c)::_;unfold ZGJ;rw[hm c (ZGM hl.1)]
  |ov x=> show A.den ρ' (fun _=> 0) x::_=A.den ρ (fun _=> 0) x::_;rw[A.den_congr (b:=0) hr (fun _ _=> rfl) x hl.1]
theorem ZPe (h:Rel P KD ρ m a f nb g):∀{l:List LA} {xs:List A},ZL6 a l=some xs→A.bels a.nx 0 xs=true→A.dens ρ (fun _=> 0) xs=l.map (LA.val ρ f (ZGJ g m))
 |[],_,hx,_=> by cases hx;rfl
 |.tm t::l,xs,hx,hb=> by
  unfold ZL6 at hx
  split at hx
  ·rename_i x xs' h1 h2
   cases hx
   have hb:(x.bel a.nx 0 && A.bels a.nx 0 xs')=true:=hb
   rw[Bool.and_eq_true] at hb
   show A.den ρ (fun _=> 0) x::A.dens ρ (fun _=> 0) xs'=f t::l.map (LA.val ρ f (ZGJ g m))
   rw[ZPe h h2 hb.2,(h.regs t x h1).1,A.den_congr (b:=0) (fun _ _=> rfl) (fun c hc=> absurd hc (Nat.not_lt_zero c)) x hb.1]
  ·cases hx
 |.rw b::l,xs,hx,hb=> by
  unfold ZL6 at hx
  split at hx
  ·rename_i x xs' h1 h2
   cases hx
   have hb:(A.bels a.nx 0 x && A.bels a.nx 0 xs')=true:=hb
   rw[Bool.and_eq_true] at hb
   show V.agg (A.dens ρ (fun _=> 0) x)::A.dens ρ (fun _=> 0) xs'=V.agg (ZGJ g m b)::l.map (LA.val ρ f (ZGJ g m))
   rw[ZPe h h2 hb.2]
   unfold ZGJ
   rw[(h.blks b x h1).1,A.dens_congr (b:=0) (fun _ _=> rfl) (fun c hc=> absurd hc (Nat.not_lt_zero c)) x hb.1]
  ·cases hx
 |.ov x::l,xs,hx,hb=> by
  unfold ZL6 at hx
  split at hx
  ·rename_i xs' h2
   cases hx
   have hb:(x.bel a.nx 0 && A.bels a.nx 0 xs')=true:=hb
   rw[Bool.and_eq_true] at hb
   show A.den ρ (fun _=> 0) x::A.dens ρ (fun _=> 0) xs'=A.den ρ (fun _=> 0) x::l.map (LA.val ρ f (ZGJ g m))
   rw[ZPe h h2 hb.2]
  ·cases hx
theorem Z0p (pl:Plan) (hold:ZMv pl a=true) (h:Inv P KD ρ m pl a f nb g):
 ∃ρ',(∀y,y < a.nx→ρ' y=ρ y)∧Rel P KD ρ' m (head pl a) f nb g∧a.nx≤(head pl a).nx∧(head pl a).blks.length=a.blks.length:=by
 obtain⟨ρ1,a1,a2,a3,a4⟩:=ZWQ h.rel h.lv h.ap
 have hlen:(Ae.headA pl a).blks.length=a.blks.length:=ZP2
 obtain⟨ρ2,b1,b2,b3,b4⟩:=ZWP a2 fun p hp=> by rw[a4,hlen];exact h.bl p hp
 have hr:∀y,y < a.nx→ρ2 y=ρ y:=fun y hy=> (b1 y (Nat.lt_of_lt_of_le hy a3)).trans (a1 y hy)
 unfold ZMv at hold
 rw[Bool.and_eq_true,Bool.and_eq_true,Bool.and_eq_true,Bool.and_eq_true,List.all_eq_true,List.all_eq_true,List.all_eq_true] at hold
 obtain⟨⟨⟨⟨hold0,hold1⟩,hold2⟩,hold3⟩,hold4⟩:=hold
 have hs:SameS (ZOp pl a) (head pl a):=.knows
 refine⟨ρ2,hr,b2.knows fun F hF=> ?_,?_,?_⟩
 ·rcases List.mem_append.1 hF with hF|hF
  ·obtain⟨c,hc,hF⟩:=List.mem_flatMap.1 hF
   unfold psF at hF
   split at hF
   ·rename_i l hl
    cases hb:A.bels (ZOp pl a).nx 0 l with
    |false=> rw[hb] at hF;cases hF
    |true=>
     rw[hb] at hF
     obtain rfl:=List.mem_singleton.1 hF
     show c.1 (A.dens ρ2 (fun _=> 0) l)
     rw[ZPe b2 hl hb,LA.old_val hr (m':=m) (fun _ _=> rfl) (hold0 c hc)]
     exact h.ps c hc
   ·cases hF
  rcases List.mem_append.1 hF with hF|hF
  ·obtain⟨c,hc,hF⟩:=List.mem_flatMap.1 hF
   have hcv:=h.iv c hc
   have ho:=hold1 c hc
   rw[Bool.and_eq_true] at ho
   rw[←LQ.old_val (ρ':=ρ2) (m':=m) hr (fun _ _=> rfl) ho.1,←LQ.old_val (ρ':=ρ2) (m':=m) hr (fun _ _=> rfl) ho.2] at hcv
   unfold ivF at hF
   split at hF
   ·rename_i p i q j hp hq
    obtain rfl:=List.mem_singleton.1 hF
    obtain⟨e1, -⟩:=ZL7 b2 hp
    obtain⟨e2, -⟩:=ZL7 b2 hq
    show p.val ρ2 - q.val ρ2≤_
    omega
   ·cases hF
  ·obtain⟨c,hc,hF⟩:=List.mem_flatMap.1 hF
   have hcv:=h.rfs c hc
   have ho:=ZGM (hold2 c hc)
   unfold rfF at hF
   split at hF
   ·rename_i q k hq
    obtain rfl:=List.mem_singleton.1 hF
    obtain⟨e1, -⟩:=ZL7 b2 hq
    intro cs len sz o hx N hN hl
    rw[hr _ ho] at hx
    refine hcv cs len sz o hx N ?_ hl
    have:(LQ.v c.2.2 0).val ρ f (ZGJ g m)=(LQ.v c.2.2 0).val ρ2 f (ZGJ g m):=rfl
    rw[this,e1];exact hN
   ·cases hF
 ·rw[hs.nx];exact Nat.le_trans a3 b3
 ·rw[hs.blks];exact(b4.trans (by rw[a4])).trans hlen
end
end
end
end Go.Ae
end
