/- The closure: plain law. -/
import Derived.Test.YtdlaladdeelegaaGreatF3
set_option linter.all false
noncomputable section
namespace Go.Proofs.YtdlaladdeelegaaGreat.Cg
section
section
def Nx (l:List (Option Nat)) (t u:Nat):Prop:=l[t]?=some (some u)
inductive Way (l:List (Option Nat)):Nat→Nat→Prop
 |refl (t:Nat):Way l t t
 |step {t u v:Nat}:Nx l t u→Way l u v→Way l t v
def ZEn (l:List (Option Nat)) (δ:Nat→Nat):Prop:=∀t u,Nx l t u→δ u < δ t
theorem Way.le {l:List (Option Nat)} {δ:Nat→Nat} (h:ZEn l δ) {t u:Nat} (hw:Way l t u):δ u≤δ t:=by
 induction hw with
 |refl t=> exact Nat.le_refl _
 |step h1 _ ih=> have:=h _ _ h1;omega
theorem zwk {l:List (Option Nat)} {t nx u v:Nat} (h:Nx (l.set t (some nx)) u v):(u=t∧v=nx)∨(u≠t∧Nx l u v):=by
 unfold Nx at h
 rw[List.getElem?_set] at h
 by_cases hu:t=u
 ·subst hu
  rw[if_pos rfl] at h
  split at h
  ·exact .inl ⟨rfl,by cases h;rfl⟩
  ·cases h
 ·rw[if_neg hu] at h
  exact .inr ⟨fun hh=> hu hh.symm,h⟩
open Classical in
theorem zQI {l:List (Option Nat)} {δ:Nat→Nat} (hf:ZEn l δ) {κ:Nat→Bool} (hk:∀u v,Nx l u v→κ u=κ v) {t nx:Nat} (h1:κ nx=true) (h2:κ t=false):
 ∃(δ':Nat→Nat) (κ':Nat→Bool),ZEn (l.set t (some nx)) δ'∧(∀u v,Nx (l.set t (some nx)) u v→κ' u=κ' v)∧κ' t=true∧(∀u,δ u < δ t→κ u=false→κ' u=false)∧(∀u,κ u=true→κ' u=true)∧(∀u,δ u≤δ' u)∧∀u,δ u < δ t→δ' u=δ u:=by
 have way_k:∀{u v},Way l u v→κ u=κ v:=by
  intro u v hw
  induction hw with
  |refl=> rfl
  |step h _ ih=> exact(hk _ _ h).trans ih
 have hnx:¬Way l nx t:=fun hw=> by have:=way_k hw;rw[h1,h2] at this;cases this
 refine⟨fun u=> if Way l u t then δ u+δ nx+1 else δ u,fun u=> κ u||decide (Way l u t),?_,?_,?_,?_,?_,?_,?_⟩
 ·intro u v h
  rcases zwk h with ⟨rfl,rfl⟩|⟨hu,h⟩
  ·simp only[if_neg hnx,if_pos (Way.refl u)];omega
  ·have:=hf u v h
   by_cases hv:Way l v t
   ·simp only[if_pos hv,if_pos (Way.step h hv)];omega
   ·have hut:¬Way l u t:=fun hw=> by
     cases hw with
     |refl=> exact hu rfl
     |step h' hw'=>
      unfold Nx at h h'
      rw[h] at h'
      cases h'
      exact hv hw'
    simp only[if_neg hv,if_neg hut];exact this
 ·intro u v h
  rcases zwk h with ⟨rfl,rfl⟩|⟨hu,h⟩
  ·simp[h1,Way.refl]
  ·have e:=hk u v h
   have:Way l u t↔Way l v t:=⟨fun hw=> by
    cases hw with
    |refl=> exact absurd rfl hu
    |step h' hw'=>
     unfold Nx at h h'
     rw[h] at h'
     cases h'
     exact hw',fun hw=> .step h hw⟩
   simp only[e,this]
 ·simp[Way.refl]
 ·intro u hu hk'
  have:¬Way l u t:=fun hw=> by have:=hw.le hf;omega
  simp[hk',this]
 ·intro u hu;simp[hu]
 ·intro u;simp only;split <;> omega
 ·intro u hu
  have:¬Way l u t:=fun hw=> by have:=hw.le hf;omega
  simp only[if_neg this]
def rank (δ:Nat→Nat) (n t:Nat):Nat:=((List.range n).filter fun u=> decide (δ u < δ t)).length
theorem zCN (δ:Nat→Nat) (n t:Nat):rank δ n t≤n:=by
 unfold rank
 exact Nat.le_trans (List.length_filter_le _ _) (by simp)
theorem zy0 {α:Type} {p q:α→Bool}:∀{l:List α},(∀x,p x=true→q x=true)→(l.filter p).length≤(l.filter q).length
 |[],_=> Nat.le_refl _
 |y::l,h=> by
  have ih:=zy0 (l:=l) h
  simp only[List.filter_cons]
  by_cases hy:p y=true
  ·rw[if_pos hy,if_pos (h y hy)];simp only[List.length_cons];omega
  ·rw[if_neg hy];split
   ·simp only[List.length_cons];omega
   ·exact ih
theorem zwR {α:Type} {p q:α→Bool}:∀{l:List α} {a:α},(∀x,p x=true→q x=true)→a∈l→p a=false→q a=true→(l.filter p).length < (l.filter q).length
 |[],a,_,h,_,_=> by cases h
 |x::l,a,hpq,h,h1,h2=> by
  have hle:(l.filter p).length≤(l.filter q).length:=zy0 hpq
  rcases List.mem_cons.1 h with rfl|h
  ·simp only[List.filter_cons,h1,h2,Bool.false_eq_true,if_false,if_true,List.length_cons];omega
  ·have ih:=zwR hpq h h1 h2
   simp only[List.filter_cons]
   by_cases hx:p x=true
   ·rw[if_pos hx,if_pos (hpq x hx)];simp only[List.length_cons];omega
   ·rw[if_neg hx];split
    ·simp only[List.length_cons];omega
    ·exact ih
theorem zys {δ:Nat→Nat} {n u t:Nat} (hu:u < n) (h:δ u < δ t):rank δ n u < rank δ n t:=by
 unfold rank
 refine zwR (a:=u) (fun x hx=> ?_) (List.mem_range.2 hu) (by simp) (by simpa using h)
 simp only[decide_eq_true_eq] at hx⊢
 omega
theorem zXa {n:Nat}:∀(fu:Nat) (at':Option Nat) (nx:Nat) (w:Zm0) (A:Cl) (δ:Nat→Nat) (κ:Nat→Bool),A.nxt.length=n→A.why.length=n→(∀t u,Nx A.nxt t u→u < n)→ZEn A.nxt δ→(∀u v,Nx A.nxt u v→κ u=κ v)→κ nx=true→nx < n→(∀t,at'=some t→t < n∧κ t=false∧rank δ n t+1 < fu)→0 < fu→
 ∃A',ZDR fu at' nx w A=some A'∧A'.nxt.length=n∧A'.why.length=n∧(∀t u,Nx A'.nxt t u→u < n)∧(∃δ',ZEn A'.nxt δ')∧∀(P:Nat→Prop),P nx→(∀t,at'=some t→P t)→(∀u v,Nx A.nxt u v→(P u↔P v))→∀u v,Nx A'.nxt u v→(P u↔P v):=by
 intro fu
 induction fu with
 |zero=> intro _ _ _ _ _ _ _ _ _ _ _ _ _ _ h;omega
 |succ fu ih=>
  intro at' nx w A δ κ hl hl2 hb hf hk hnx hnxn hat _
  cases at' with
  |none=> exact⟨A,rfl,hl,hl2,hb,⟨δ,hf⟩,fun P _ _ h=> h⟩
  |some t=>
   obtain⟨htn,hkt,hr⟩:=hat t rfl
   have e1:A.nxt[t]?=some A.nxt[t]:=List.getElem?_eq_getElem (by omega)
   have e2:A.why[t]?=some A.why[t]:=List.getElem?_eq_getElem (by omega)
   generalize A.nxt[t]=old at e1
   generalize A.why[t]=reason at e2
   obtain⟨δ',κ',f1,f2,f3,f4,f5,f6,f7⟩:=zQI hf hk hnx hkt
   have hb':∀u v,Nx (A.nxt.set t (some nx)) u v→v < n:=fun u v h=> by
    rcases zwk h with ⟨_,rfl⟩|⟨_,h⟩
    ·exact hnxn
    ·exact hb u v h
   simp only[ZDR,e1,e2]
   obtain⟨A',r1,r2,r3,r4,r5,r6⟩:=ih old t reason {A with nxt:=A.nxt.set t (some nx),why:=A.why.set t w} δ' κ' (by simp[hl]) (by simp[hl2]) hb' f1 f2 f3 htn (fun p hp=> by
    subst hp
    have hlt:=hf t p e1
    refine⟨hb t p e1,f4 p hlt (by rw[←hk t p e1];exact hkt),?_⟩
    have h1:=zys (n:=n) (hb t p e1) hlt
    have h2:rank δ' n p≤rank δ n p:=by
     unfold rank
     refine zy0 fun x hx=> ?_
     simp only[decide_eq_true_eq] at hx⊢
     have:=f6 x
     rw[f7 p hlt] at hx
     omega
    omega) (by omega)
   refine⟨A',r1,r2,r3,r4,r5,fun P h1 h2 h3=> r6 P (h2 t rfl) (fun p hp=> ?_) fun u v h=> ?_⟩
   ·subst hp;exact(h3 t p e1).1 (h2 t rfl)
   ·rcases zwk h with ⟨rfl,rfl⟩|⟨_,h⟩
    ·exact⟨fun _=> h1,fun _=> h2 u rfl⟩
    ·exact h3 u v h
end
section
structure Cong (m:Nat) (apps:List Key) (Rel:Nat→Nat→Prop):Prop where
 refl:∀a,Rel a a
 symm:∀{a b},Rel a b→Rel b a
 trans:∀{a b c},Rel a b→Rel b c→Rel a c
 app:∀{j k:Nat} {p q:Key},apps[j]?=some p→apps[k]?=some q→Rel p.1 q.1→Rel p.2 q.2→Rel (m+j) (m+k)
inductive EqP (cls:List Nat) (p:List Zm0):Nat→Nat→Prop
 |cls {a b k:Nat}:cls[a]?=some k→cls[b]?=some k→EqP cls p a b
 |pend {s:Zm0}:s∈p→EqP cls p s.1 s.2.1
 |symm {a b:Nat}:EqP cls p a b→EqP cls p b a
 |trans {a b c:Nat}:EqP cls p a b→EqP cls p b c→EqP cls p a c
theorem EqP.mono {cls cls':List Nat} {p p':List Zm0} (h1:∀a b k,cls[a]?=some k→cls[b]?=some k→EqP cls' p' a b) (h2:∀s∈p,EqP cls' p' s.1 s.2.1) {a b:Nat} (h:EqP cls p a b):EqP cls' p' a b:=by
 induction h with
 |cls x y=> exact h1 _ _ _ x y
 |pend x=> exact h2 _ x
 |symm _ ih=> exact ih.symm
 |trans _ _ i1 i2=> exact i1.trans i2
structure Base (m e:Nat) (apps:List Key) (Rel:Nat→Nat→Prop) (A:Cl):Prop where
 he:e≤apps.length
 ha:∀(j:Nat) (q:Key),apps[j]?=some q→q.1 < m+j∧q.2 < m+j
 lc:A.cls.length=m+apps.length
 lm:A.mem.length=m+apps.length
 lu:A.use.length=m+apps.length
 ln:A.nxt.length=m+apps.length
 lw:A.why.length=m+apps.length
 cm:∀i k:Nat,A.cls[i]?=some k→∃l,A.mem[k]?=some l∧i∈l
 mc:∀(k:Nat) (l:List Nat) (i:Nat),A.mem[k]?=some l→i∈l→A.cls[i]?=some k
 mn:∀(k:Nat) (l:List Nat),A.mem[k]?=some l→l.Nodup
 us:∀(j:Nat) (q:Key) (k:Nat),j < e→apps[j]?=some q→A.cls[q.1]?=some k∨A.cls[q.2]?=some k→∃l,A.use[k]?=some l∧m+j∈l
 ut:∀(k:Nat) (l:List Nat) (t:Nat),A.use[k]?=some l→t∈l→m≤t∧t < m+e
 ub:(A.use.map List.length).sum≤2 * e
 fb:∀t u,Nx A.nxt t u→u < m+apps.length∧∀k:Nat,A.cls[t]?=some k→A.cls[u]?=some k
 fo:∃δ,ZEn A.nxt δ
 rl:∀i j k:Nat,A.cls[i]?=some k→A.cls[j]?=some k→Rel i j
structure TabI (m e:Nat) (apps:List Key) (Rel:Nat→Nat→Prop) (A:Cl) (p:List Zm0) (l:List Nat):Prop where
 pd:∀s∈p,s.1 < m+apps.length∧s.2.1 < m+apps.length∧Rel s.1 s.2.1
 t1:∀(x y o:Nat),ZCL A.tab (x,y)=some o→∃(j:Nat) (q:Key),o=m+j∧j < e∧apps[j]?=some q∧((∃i:Nat,A.cls[i]?=some x)→A.cls[q.1]?=some x)∧((∃i:Nat,A.cls[i]?=some y)→A.cls[q.2]?=some y)
 t2:∀(j:Nat) (q:Key) (x y:Nat),j < e→apps[j]?=some q→A.cls[q.1]?=some x→A.cls[q.2]?=some y→m+j∈l∨∃o,ZCL A.tab (x,y)=some o∧EqP A.cls p o (m+j)
theorem zkq (l:ZDx) (k k':Key) (t:Nat):ZCL (ZCS l k t) k'=if k'=k then some t else ZCL l k':=by
 induction l with
 |nil=>
  unfold ZCS ZCL
  by_cases h:k'=k
  ·subst h;simp
  ·rw[if_neg h,if_neg (fun hh=> h hh.symm)]
   rfl
 |cons e l ih=>
  unfold ZCS
  by_cases he:e.1=k
  ·rw[if_pos he]
   unfold ZCL
   by_cases h:k'=k
   ·subst h;simp
   ·rw[if_neg h,if_neg (fun hh=> h hh.symm),if_neg (fun hh=> h (by rw[←hh,he]))]
  ·rw[if_neg he]
   unfold ZCL
   by_cases hk:e.1=k'
   ·rw[if_pos hk,if_pos hk,if_neg (fun hh=> he (by rw[hk,hh]))]
   ·rw[if_neg hk,if_neg hk,ih]
variable {m e:Nat} {apps:List Key} {Rel:Nat→Nat→Prop}
theorem zCx (hR:Cong m apps Rel):∀(l:List Nat) (A:Cl) (p:List Zm0),Base m e apps Rel A→TabI m e apps Rel A p l→(∀t∈l,m≤t∧t < m+e)→p.length+l.length < 100000→
 ∃A' p',ZEu m apps l A p=some (A',p')∧TabI m e apps Rel A' p' []∧p'.length≤p.length+l.length∧A'={A with tab:=A'.tab}∧∀s∈p,s∈p'
 |[],A,p,hB,hT,_,_=> ⟨A,p,rfl,hT,Nat.le_refl _,rfl,fun _ h=> h⟩
 |t::l,A,p,hB,hT,hl,hlen=> by
  obtain⟨ht1,ht2⟩:=hl t List.mem_cons_self
  simp only[List.length_cons] at hlen
  have he:=hB.he
  have hj:t - m < apps.length:=by omega
  have hq:apps[t - m]?=some apps[t - m]:=List.getElem?_eq_getElem hj
  generalize apps[t - m]=q at hq
  obtain⟨a1,a2⟩:=hB.ha _ _ hq
  have lc:=hB.lc
  have b1:q.1 < A.cls.length:=by omega
  have b2:q.2 < A.cls.length:=by omega
  have c1:A.cls[q.1]?=some A.cls[q.1]:=List.getElem?_eq_getElem b1
  have c2:A.cls[q.2]?=some A.cls[q.2]:=List.getElem?_eq_getElem b2
  generalize A.cls[q.1]=x at c1
  generalize A.cls[q.2]=y at c2
  have hkey:ZEt m apps A.cls t=some (x,y):=by
   unfold ZEt;simp only[if_pos ht1,hq,c1,c2]
  have et:m+(t - m)=t:=by omega
  have setI:(∀o,ZCL A.tab (x,y)=some o→EqP A.cls p o t)→TabI m e apps Rel {A with tab:=ZCS A.tab (x,y) t} p l:=fun ho=> by
   refine⟨hT.pd,fun x' y' o h=> ?_,fun j q' x' y' h1 h2 h3 h4=> ?_⟩
   ·rw[show({A with tab:=ZCS A.tab (x,y) t}:Cl).tab=ZCS A.tab (x,y) t from rfl,zkq] at h
    split at h
    ·rename_i hk
     cases hk;cases h
     exact⟨t - m,q,et.symm,by omega,hq,fun _=> c1,fun _=> c2⟩
    ·exact hT.t1 x' y' o h
   ·show m+j∈l∨∃o,ZCL (ZCS A.tab (x,y) t) (x',y')=some o∧EqP A.cls p o (m+j)
    rw[zkq]
    by_cases hk:(x',y')=(x,y)
    ·rw[if_pos hk]
     cases hk
     rcases hT.t2 j q' x y h1 h2 h3 h4 with h|⟨o,h5,h6⟩
     ·rcases List.mem_cons.1 h with h|h
      ·right
       have hjt:j=t - m:=by omega
       have:m+j < A.cls.length:=by omega
       exact⟨t,rfl,by rw[h];exact .cls (k:=A.cls[t]) (List.getElem?_eq_getElem (by omega)) (List.getElem?_eq_getElem (by omega))⟩
      ·exact .inl h
     ·exact .inr ⟨t,rfl,(ho o h5).symm.trans h6⟩
    ·rw[if_neg hk]
     rcases hT.t2 j q' x' y' h1 h2 h3 h4 with h|h
     ·rcases List.mem_cons.1 h with h|h
      ·exfalso
       have hjt:j=t - m:=by omega
       subst hjt
       rw[hq] at h2
       cases h2
       rw[c1] at h3;rw[c2] at h4
       cases h3;cases h4
       exact hk rfl
      ·exact .inl h
     ·exact .inr h
  have hl':∀u∈l,m≤u∧u < m+e:=fun u hu=> hl u (List.mem_cons_of_mem _ hu)
  have go:(∀o,ZCL A.tab (x,y)=some o→EqP A.cls p o t)→∃A' p',ZEu m apps l {A with tab:=ZCS A.tab (x,y) t} p=some (A',p')∧TabI m e apps Rel A' p' []∧p'.length≤p.length+(l.length+1)∧A'={A with tab:=A'.tab}∧∀s∈p,s∈p':=fun ho=> by
   obtain⟨A',p',r1,r2,r3,r4⟩:=zCx hR l {A with tab:=ZCS A.tab (x,y) t} p ⟨hB.he,hB.ha,hB.lc,hB.lm,hB.lu,hB.ln,hB.lw,hB.cm,hB.mc,hB.mn,hB.us,hB.ut,hB.ub,hB.fb,hB.fo,hB.rl⟩ (setI ho) hl' (by omega)
   exact⟨A',p',r1,r2,by omega,r4⟩
  unfold ZEu
  rw[hkey]
  simp only
  cases hget:ZCL A.tab (x,y) with
  |none=> exact go fun o ho=> by rw[hget] at ho;cases ho
  |some o=>
   obtain⟨jo,qo,rfl,hjo,hqo,ho1,ho2⟩:=hT.t1 x y o hget
   have h1:=ho1 ⟨_,c1⟩
   have h2:=ho2 ⟨_,c2⟩
   have co:A.cls[m+jo]?=some A.cls[m+jo]:=List.getElem?_eq_getElem (by omega)
   have ct:A.cls[t]?=some A.cls[t]:=List.getElem?_eq_getElem (by omega)
   generalize A.cls[m+jo]=ko at co
   generalize A.cls[t]=kt at ct
   simp only[co,ct]
   by_cases hk:ko=kt
   ·subst hk
    simp only[ne_eq,not_true_eq_false,if_false]
    exact go fun o ho=> by rw[hget] at ho;cases ho;exact .cls co ct
   ·rw[if_pos hk,if_pos (by omega)]
    have hrel:Rel t (m+jo):=by
     have:=hR.app hq hqo (hB.rl _ _ _ c1 h1) (hB.rl _ _ _ c2 h2)
     rwa [et] at this
    have hT':TabI m e apps Rel A (p++[(t,m+jo, -1)]) l:=by
     refine⟨fun s hs=> ?_,hT.t1,fun j q' x' y' g1 g2 g3 g4=> ?_⟩
     ·rcases List.mem_append.1 hs with hs|hs
      ·exact hT.pd s hs
      ·rw[List.mem_singleton.1 hs]
       exact⟨by show t < _;omega,by show m+jo < _;omega,hrel⟩
     ·have mono:∀{a b},EqP A.cls p a b→EqP A.cls (p++[(t,m+jo, -1)]) a b:=fun h=> h.mono (fun a b k h1 h2=> .cls h1 h2) fun s hs=> .pend (List.mem_append_left _ hs)
      rcases hT.t2 j q' x' y' g1 g2 g3 g4 with h|⟨o,g5,g6⟩
      ·rcases List.mem_cons.1 h with h|h
       ·right
        have hjt:j=t - m:=by omega
        subst hjt
        rw[hq] at g2
        cases g2
        rw[c1] at g3;rw[c2] at g4
        cases g3;cases g4
        refine⟨m+jo,hget,?_⟩
        rw[et]
        exact(EqP.pend (s:=(t,m+jo, -1)) (List.mem_append_right _ (List.mem_singleton.2 rfl))).symm
       ·exact .inl h
      ·exact .inr ⟨o,g5,mono g6⟩
    obtain⟨A',p',r1,r2,r3,r4⟩:=zCx hR l A (p++[(t,m+jo, -1)]) hB hT' hl' (by rw[List.length_append];simp only[List.length_cons,List.length_nil];omega)
    rw[List.length_append] at r3
    simp only[List.length_cons,List.length_nil] at r3
    exact⟨A',p',r1,r2,by simp only[List.length_cons];omega,r4.1,fun s hs=> r4.2 s (List.mem_append_left _ hs)⟩
end
section
variable {m e:Nat} {apps:List Key} {Rel:Nat→Nat→Prop}
theorem zCZ {y:Nat}:∀(l cls:List Nat),(∀i∈l,i < cls.length)→∃cls',ZF1 l y cls=some cls'∧cls'.length=cls.length∧∀i:Nat,cls'[i]?=if i∈l then some y else cls[i]?
 |[],cls,_=> ⟨cls,rfl,rfl,fun i=> by simp⟩
 |t::l,cls,h=> by
  have ht:=h t List.mem_cons_self
  obtain⟨cls',h1,h2,h3⟩:=zCZ l (cls.set t y) fun i hi=> by rw[List.length_set];exact h i (List.mem_cons_of_mem _ hi)
  refine⟨cls',by unfold ZF1;rw[if_pos ht];exact h1,by rw[h2,List.length_set],fun i=> ?_⟩
  rw[h3]
  by_cases hi:i∈l
  ·rw[if_pos hi,if_pos (List.mem_cons_of_mem _ hi)]
  ·rw[if_neg hi,List.getElem?_set]
   by_cases hti:t=i
   ·subst hti;rw[if_pos rfl,if_pos ht,if_pos List.mem_cons_self]
   ·rw[if_neg hti,if_neg (fun hh=> by rcases List.mem_cons.1 hh with h|h;exact hti h.symm;exact hi h)]
theorem zCA {n:Nat}:∀{l:List Nat},l.Nodup→(∀i∈l,i < n)→l.length≤n:=by
 induction n with
 |zero=>
  intro l _ h
  cases l with
  |nil=> exact Nat.le_refl _
  |cons a l=> exact absurd (h a List.mem_cons_self) (by omega)
 |succ n ih=>
  intro l hn h
  have h1:(l.erase n).length≤n:=ih (hn.erase n) fun i hi=> by
   have h2:=h i (List.mem_of_mem_erase hi)
   have h3:i≠n:=fun hh=> by subst hh;exact(List.Nodup.not_mem_erase hn) hi
   omega
  rw[List.length_erase] at h1
  split at h1 <;> omega
theorem zwt:∀(l:List Nat) (i v:Nat),i < l.length→(l.set i v).sum+l[i]?.getD 0=l.sum+v
 |[],i,v,h=> by cases h
 |a::l,0,v,_=> by simp;omega
 |a::l,i+1,v,h=> by
  have:=zwt l i v (by simpa using h)
  simp only[List.set_cons_succ,List.sum_cons,List.getElem?_cons_succ]
  omega
theorem zyB:∀(l:List Nat) (i:Nat),l[i]?.getD 0≤l.sum
 |[],i=> by simp
 |a::l,0=> by simp
 |a::l,i+1=> by
  have:=zyB l i
  simp only[List.sum_cons,List.getElem?_cons_succ]
  omega
def live (n:Nat) (cls:List Nat):Nat:=((List.range n).filter fun k=> decide (k∈cls)).length
theorem zjg {cls:List Nat} {k:Nat}:k∈cls↔∃i:Nat,cls[i]?=some k:=List.mem_iff_getElem?
theorem Base.tab {A:Cl} (h:Base m e apps Rel A) (t:ZDx):Base m e apps Rel {A with tab:=t}:=⟨h.he,h.ha,h.lc,h.lm,h.lu,h.ln,h.lw,h.cm,h.mc,h.mn,h.us,h.ut,h.ub,h.fb,h.fo,h.rl⟩
theorem zRk (hR:Cong m apps Rel) (hn:m+apps.length < 30000) {fu x y:Nat} {s:Zm0} {A:Cl} {p:List Zm0} (hB:Base m e apps Rel A) (hT:TabI m e apps Rel A (s::p) []) (hx:A.cls[s.1]?=some x) (hy:A.cls[s.2.1]?=some y) (hxy:x≠y) (hfu:m+apps.length+2≤fu) (hp:p.length+2 * e < 100000):
 ∃A' p',ZEX m apps fu x y s A p=some (A',p')∧Base m e apps Rel A'∧TabI m e apps Rel A' p' []∧p'.length≤p.length+2 * e∧live (m+apps.length) A'.cls < live (m+apps.length) A.cls∧∀a b,EqP A.cls (s::p) a b→EqP A'.cls p' a b:=by
 have he:=hB.he
 obtain⟨δ,hδ⟩:=hB.fo
 have lc:=hB.lc
 have ha:s.1 < m+apps.length:=by rw[←lc];exact(List.getElem?_eq_some_iff.1 hx).1
 have hb:s.2.1 < m+apps.length:=by rw[←lc];exact(List.getElem?_eq_some_iff.1 hy).1
 obtain⟨mx,mx1,mx2⟩:=hB.cm _ _ hx
 obtain⟨my,my1,my2⟩:=hB.cm _ _ hy
 have hxn:x < m+apps.length:=by rw[←hB.lm];exact(List.getElem?_eq_some_iff.1 mx1).1
 have hyn:y < m+apps.length:=by rw[←hB.lm];exact(List.getElem?_eq_some_iff.1 my1).1
 have kx:x < A.use.length:=by rw[hB.lu];exact hxn
 have ky:y < A.use.length:=by rw[hB.lu];exact hyn
 have ux1:A.use[x]?=some A.use[x]:=List.getElem?_eq_getElem kx
 have uy1:A.use[y]?=some A.use[y]:=List.getElem?_eq_getElem ky
 generalize A.use[x]=ux at ux1
 generalize A.use[y]=uy at uy1
 have cl:∀i,i∈mx↔A.cls[i]?=some x:=fun i=> ⟨hB.mc _ _ _ mx1,fun h=> by
  obtain⟨l,h1,h2⟩:=hB.cm _ _ h
  rw[mx1] at h1;cases h1;exact h2⟩
 have clt:∀(i k:Nat),A.cls[i]?=some k→i < m+apps.length:=fun i k h=> by rw[←lc];exact(List.getElem?_eq_some_iff.1 h).1
 obtain⟨A1,l1,l2,l3,l4,l5,l6⟩:=zXa (n:=m+apps.length) fu (some s.1) s.2.1 s A δ (fun u=> decide (A.cls[u]?=some y)) hB.ln hB.lw (fun t u h=> (hB.fb t u h).1) hδ (fun u v h=> by
  have hu:u < m+apps.length:=by rw[←hB.ln];exact(List.getElem?_eq_some_iff.1 h).1
  have e1:A.cls[u]?=some A.cls[u]:=List.getElem?_eq_getElem (by omega)
  have e2:=(hB.fb u v h).2 _ e1
  rw[e1,e2]) (by simp[hy]) hb (fun t ht=> by
  cases ht
  refine⟨ha,by simp[hx,hxy],?_⟩
  have:=zCN δ (m+apps.length) s.1
  omega) (by omega)
 obtain⟨r1,r2,r3,r4⟩:A1.cls=A.cls∧A1.mem=A.mem∧A1.use=A.use∧A1.tab=A.tab:=by
  have go:∀{fu:Nat} {at':Option Nat} {nx:Nat} {w:Zm0} {A A':Cl},ZDR fu at' nx w A=some A'→A'.cls=A.cls∧A'.mem=A.mem∧A'.use=A.use∧A'.tab=A.tab:=by
   intro fu
   induction fu with
   |zero=> intro _ _ _ _ _ h;cases h
   |succ fu ih=>
    intro at' nx w A A' h
    cases at' with
    |none=> obtain rfl:=Option.some.inj h;exact⟨rfl,rfl,rfl,rfl⟩
    |some t=>
     simp only[ZDR] at h
     split at h
     ·have q:=ih h;exact q
     ·cases h
  exact go l1
 obtain⟨cls',s1,s2,s3⟩:=zCZ (y:=y) mx A.cls fun i hi=> by rw[lc];exact clt _ _ ((cl i).1 hi)
 have s3x:∀i k:Nat,cls'[i]?=some k→(k=y∧A.cls[i]?=some x)∨(k≠x∧A.cls[i]?=some k):=fun i k h=> by
  rw[s3] at h
  split at h
  ·rename_i hi
   cases h
   exact .inl ⟨rfl,(cl i).1 hi⟩
  ·rename_i hi
   exact .inr ⟨fun hh=> hi ((cl i).2 (by rw[←hh];exact h)),h⟩
 have to':∀i k:Nat,A.cls[i]?=some k→cls'[i]?=some (if k=x then y else k):=fun i k h=> by
  rw[s3]
  by_cases hk:k=x
  ·rw[if_pos hk,if_pos ((cl i).2 (by rw[←hk];exact h))]
  ·rw[if_neg hk,if_neg (fun hi=> by have:=(cl i).1 hi;rw[h] at this;cases this;exact hk rfl),h]
 have su:=hB.ub
 have lx:(A.use.map List.length)[x]?.getD 0=ux.length:=by rw[List.getElem?_map,ux1];rfl
 have ly:(A.use.map List.length)[y]?.getD 0=uy.length:=by rw[List.getElem?_map,uy1];rfl
 have sum1:(((A.use.set x []).set y (uy++ux)).map List.length).sum=(A.use.map List.length).sum:=by
  rw[List.map_set,List.map_set]
  have h1:=zwt (A.use.map List.length) x 0 (by simp[hB.lu];exact hxn)
  have h2:=zwt ((A.use.map List.length).set x 0) y (uy++ux).length (by simp[hB.lu];exact hyn)
  rw[lx] at h1
  rw[List.getElem?_set_ne hxy,ly,List.length_append] at h2
  rw[List.length_append]
  show(((A.use.map List.length).set x ([]:List Nat).length).set y (uy.length+ux.length)).sum=_
  simp only[List.length_nil]
  omega
 have hux:uy.length+ux.length≤2 * e:=by
  have:=zyB (((A.use.set x []).set y (uy++ux)).map List.length) y
  rw[sum1,List.getElem?_map,List.getElem?_set_self (by rw[List.length_set,hB.lu];exact hyn)] at this
  simp only[Option.map_some,Option.getD_some,List.length_append] at this
  omega
 have hdis:∀i,i∈my→i∉mx:=fun i h1 h2=> by
  have a1:=hB.mc _ _ _ my1 h1
  rw[(cl i).1 h2] at a1;cases a1;exact hxy rfl
 have hmn:(my++mx).Nodup:=List.nodup_append.2 ⟨hB.mn _ _ my1,hB.mn _ _ mx1,fun a h1 b h2 hh=> by subst hh;exact hdis a h1 h2⟩
 have hml:(my++mx).length≤m+apps.length:=zCA hmn fun i hi=> by
  rcases List.mem_append.1 hi with hi|hi
  ·exact clt _ _ (hB.mc _ _ _ my1 hi)
  ·exact clt _ _ (hB.mc _ _ _ mx1 hi)
 have hmlen:(my++mx).length < 100000∧(uy++ux).length < 100000:=⟨by omega,by rw[List.length_append];omega⟩
 have memx:((A.mem.set y (my++mx)).set x [])[x]?=some []:=List.getElem?_set_self (by rw[List.length_set,hB.lm];exact hxn)
 have memy:((A.mem.set y (my++mx)).set x [])[y]?=some (my++mx):=by rw[List.getElem?_set_ne hxy,List.getElem?_set_self (by rw[hB.lm];exact hyn)]
 have memo:∀k,k≠x→k≠y→((A.mem.set y (my++mx)).set x [])[k]?=A.mem[k]?:=fun k h1 h2=> by rw[List.getElem?_set_ne (Ne.symm h1),List.getElem?_set_ne (Ne.symm h2)]
 have usex:((A.use.set x []).set y (uy++ux))[x]?=some []:=by rw[List.getElem?_set_ne (Ne.symm hxy),List.getElem?_set_self (by rw[hB.lu];exact hxn)]
 have usey:((A.use.set x []).set y (uy++ux))[y]?=some (uy++ux):=List.getElem?_set_self (by rw[List.length_set,hB.lu];exact hyn)
 have useo:∀k,k≠x→k≠y→((A.use.set x []).set y (uy++ux))[k]?=A.use[k]?:=fun k h1 h2=> by rw[List.getElem?_set_ne (Ne.symm h2),List.getElem?_set_ne (Ne.symm h1)]
 let A2:Cl:={A1 with cls:=cls',mem:=(A1.mem.set y (my++mx)).set x [],use:=(A1.use.set x []).set y (uy++ux)}
 have hs:=hT.pd s List.mem_cons_self
 have inUse:∀(j:Nat) (q:Key),j < e→apps[j]?=some q→A.cls[q.1]?=some x∨A.cls[q.2]?=some x→m+j∈ux:=fun j q h1 h2 h3=> by
  obtain⟨l,h4,h5⟩:=hB.us j q x h1 h2 h3
  rw[ux1] at h4;cases h4;exact h5
 have B2:Base m e apps Rel A2:=by
  refine⟨hB.he,hB.ha,by show cls'.length=_;rw[s2,lc],?_,?_,l2,l3,?_,?_,?_,?_,?_,?_,fun t u h=> ⟨l4 t u h,?_⟩,l5,?_⟩
  ·show((A1.mem.set y (my++mx)).set x []).length=_;rw[r2];simp[hB.lm]
  ·show((A1.use.set x []).set y (uy++ux)).length=_;rw[r3];simp[hB.lu]
  ·intro i k h
   show∃l,((A1.mem.set y (my++mx)).set x [])[k]?=some l∧i∈l
   rw[r2]
   rcases s3x i k h with ⟨rfl,h1⟩|⟨hk,h1⟩
   ·exact⟨_,memy,List.mem_append_right _ ((cl i).2 h1)⟩
   ·obtain⟨l,h2,h3⟩:=hB.cm i k h1
    by_cases hky:k=y
    ·subst hky
     rw[my1] at h2;cases h2
     exact⟨_,memy,List.mem_append_left _ h3⟩
    ·exact⟨l,by rw[memo k hk hky];exact h2,h3⟩
  ·intro k l i h hi
   have h:((A1.mem.set y (my++mx)).set x [])[k]?=some l:=h
   show cls'[i]?=some k
   rw[r2] at h
   by_cases hk:k=x
   ·subst hk;rw[memx] at h;cases h;cases hi
   ·by_cases hky:k=y
    ·subst hky
     rw[memy] at h;cases h
     rcases List.mem_append.1 hi with hi|hi
     ·have:=to' i _ (hB.mc _ _ _ my1 hi)
      rw[if_neg hk] at this;exact this
     ·have:=to' i _ ((cl i).1 hi)
      rw[if_pos rfl] at this;exact this
    ·rw[memo k hk hky] at h
     have:=to' i k (hB.mc _ _ _ h hi)
     rw[if_neg hk] at this;exact this
  ·intro k l h
   have h:((A1.mem.set y (my++mx)).set x [])[k]?=some l:=h
   rw[r2] at h
   by_cases hk:k=x
   ·subst hk;rw[memx] at h;cases h;exact .nil
   ·by_cases hky:k=y
    ·subst hky;rw[memy] at h;cases h;exact hmn
    ·rw[memo k hk hky] at h;exact hB.mn _ _ h
  ·intro j q k h1 h2 h3
   show∃l,((A1.use.set x []).set y (uy++ux))[k]?=some l∧m+j∈l
   rw[r3]
   have h3':(k=y∧(A.cls[q.1]?=some x∨A.cls[q.2]?=some x))∨(k≠x∧(A.cls[q.1]?=some k∨A.cls[q.2]?=some k)):=by
    rcases h3 with h|h
    ·rcases s3x _ _ h with ⟨a,b⟩|⟨a,b⟩
     ·exact .inl ⟨a,.inl b⟩
     ·exact .inr ⟨a,.inl b⟩
    ·rcases s3x _ _ h with ⟨a,b⟩|⟨a,b⟩
     ·exact .inl ⟨a,.inr b⟩
     ·exact .inr ⟨a,.inr b⟩
   rcases h3' with ⟨rfl,h4⟩|⟨hk,h4⟩
   ·exact⟨_,usey,List.mem_append_right _ (inUse j q h1 h2 h4)⟩
   ·obtain⟨l,h5,h6⟩:=hB.us j q k h1 h2 h4
    by_cases hky:k=y
    ·subst hky
     rw[uy1] at h5;cases h5
     exact⟨_,usey,List.mem_append_left _ h6⟩
    ·exact⟨l,by rw[useo k hk hky];exact h5,h6⟩
  ·intro k l t h ht
   have h:((A1.use.set x []).set y (uy++ux))[k]?=some l:=h
   rw[r3] at h
   by_cases hky:k=y
   ·subst hky
    rw[usey] at h;cases h
    rcases List.mem_append.1 ht with ht|ht
    ·exact hB.ut _ _ _ uy1 ht
    ·exact hB.ut _ _ _ ux1 ht
   ·by_cases hk:k=x
    ·subst hk;rw[usex] at h;cases h;cases ht
    ·rw[useo k hk hky] at h;exact hB.ut _ _ _ h ht
  ·show(((A1.use.set x []).set y (uy++ux)).map List.length).sum≤2 * e
   rw[r3,sum1];exact su
  ·intro k hk
   have hk:cls'[t]?=some k:=hk
   show cls'[u]?=some k
   have same:∀a b,Nx A.nxt a b→cls'[a]?=cls'[b]?:=fun a b h=> by
    have ha':a < m+apps.length:=by rw[←hB.ln];exact(List.getElem?_eq_some_iff.1 h).1
    have e1:A.cls[a]?=some A.cls[a]:=List.getElem?_eq_getElem (by omega)
    have e2:=(hB.fb a b h).2 _ e1
    rw[to' _ _ e1,to' _ _ e2]
   have ca:=to' _ _ hx
   have cb:=to' _ _ hy
   rw[if_pos rfl] at ca
   rw[if_neg (Ne.symm hxy)] at cb
   by_cases hky:k=y
   ·subst hky
    exact(l6 (fun v=> cls'[v]?=some k) cb (fun t ht=> by cases ht;exact ca) (fun a b h=> by rw[same a b h]) t u h).1 hk
   ·have:=l6 (fun v=> ¬cls'[v]?=some k) (by rw[cb];intro hh;cases hh;exact hky rfl) (fun t ht=> by cases ht;rw[ca];intro hh;cases hh;exact hky rfl) (fun a b h=> by rw[same a b h]) t u h
    exact Classical.byContradiction fun hc=> this.2 hc hk
  ·intro i j k h1 h2
   rcases s3x i k h1 with ⟨rfl,a1⟩|⟨b1,a1⟩ <;> rcases s3x j k h2 with ⟨h,a2⟩|⟨b2,a2⟩
   ·exact hB.rl i j x a1 a2
   ·exact hR.trans (hB.rl _ _ _ a1 hx) (hR.trans hs.2.2 (hB.rl _ _ _ hy a2))
   ·subst h
    exact hR.trans (hB.rl _ _ _ a1 hy) (hR.trans (hR.symm hs.2.2) (hB.rl _ _ _ hx a2))
   ·exact hB.rl i j k a1 a2
 have T2:TabI m e apps Rel A2 p ux:=by
  refine⟨fun s hs=> hT.pd s (List.mem_cons_of_mem _ hs),fun x' y' o h=> ?_,fun j q x' y' h1 h2 h3 h4=> ?_⟩
  ·have h:ZCL A1.tab (x',y')=some o:=h
   rw[r4] at h
   obtain⟨j,q,g1,g2,g3,g4,g5⟩:=hT.t1 x' y' o h
   have key:∀z:Nat,(∃i:Nat,cls'[i]?=some z)→z≠x∧∃i:Nat,A.cls[i]?=some z:=fun z ⟨i,hi⟩=> by
    rcases s3x i z hi with ⟨rfl,_⟩|⟨h1,h2⟩
    ·exact⟨Ne.symm hxy,_,hy⟩
    ·exact⟨h1,i,h2⟩
   refine⟨j,q,g1,g2,g3,fun hz=> ?_,fun hz=> ?_⟩
   ·obtain⟨k1,k2⟩:=key x' hz
    have:=to' _ _ (g4 k2);rw[if_neg k1] at this;exact this
   ·obtain⟨k1,k2⟩:=key y' hz
    have:=to' _ _ (g5 k2);rw[if_neg k1] at this;exact this
  ·have h3:cls'[q.1]?=some x':=h3
   have h4:cls'[q.2]?=some y':=h4
   by_cases hu:m+j∈ux
   ·exact .inl hu
   ·right
    have n1:¬A.cls[q.1]?=some x:=fun hh=> hu (inUse j q h1 h2 (.inl hh))
    have n2:¬A.cls[q.2]?=some x:=fun hh=> hu (inUse j q h1 h2 (.inr hh))
    have g1:A.cls[q.1]?=some x':=by
     rcases s3x _ _ h3 with ⟨_,h⟩|⟨_,h⟩
     ·exact absurd h n1
     ·exact h
    have g2:A.cls[q.2]?=some y':=by
     rcases s3x _ _ h4 with ⟨_,h⟩|⟨_,h⟩
     ·exact absurd h n2
     ·exact h
    rcases hT.t2 j q x' y' h1 h2 g1 g2 with h|⟨o,h5,h6⟩
    ·cases h
    ·refine⟨o,by show ZCL A1.tab _=_;rw[r4];exact h5,h6.mono (fun a b k k1 k2=> .cls (to' _ _ k1) (to' _ _ k2)) fun s' hs'=> ?_⟩
     rcases List.mem_cons.1 hs' with rfl|hs'
     ·have ca:=to' _ _ hx
      have cb:=to' _ _ hy
      rw[if_pos rfl] at ca
      rw[if_neg (Ne.symm hxy)] at cb
      exact .cls ca cb
     ·exact .pend hs'
 obtain⟨A',p',w1,w2,w3,w4,w5⟩:=zCx hR ux A2 p B2 T2 (fun t ht=> hB.ut _ _ _ ux1 ht) (by omega)
 refine⟨A',p',?_,by rw[w4];exact B2.tab _,w2,by omega,?_,?_⟩
 ·unfold ZEX
  simp only[l1,r2,r3,mx1,my1,ux1,uy1,hmlen,and_self,if_true,r1,s1]
  simp only[A2,r2,r3] at w1
  exact w1
 ·rw[w4]
  show live (m+apps.length) cls' < live (m+apps.length) A.cls
  unfold live
  refine zwR (a:=x) (fun k hk=> ?_) (List.mem_range.2 hxn) ?_ ?_
  ·simp only[decide_eq_true_eq] at hk⊢
   obtain⟨i,hi⟩:=zjg.1 hk
   rcases s3x i k hi with ⟨rfl,_⟩|⟨_,h⟩
   ·exact zjg.2 ⟨_,hy⟩
   ·exact zjg.2 ⟨_,h⟩
  ·simp only[decide_eq_false_iff_not]
   intro hk
   obtain⟨i,hi⟩:=zjg.1 hk
   rcases s3x i x hi with ⟨h,_⟩|⟨h,_⟩
   ·exact hxy h
   ·exact h rfl
  ·simp only[decide_eq_true_eq]
   exact zjg.2 ⟨_,hx⟩
 ·intro a b h
  have ec:A'.cls=cls':=by rw[w4]
  refine h.mono (fun a b k k1 k2=> by rw[ec];exact .cls (to' _ _ k1) (to' _ _ k2)) fun s' hs'=> ?_
  rcases List.mem_cons.1 hs' with rfl|hs'
  ·have ca:=to' _ _ hx
   have cb:=to' _ _ hy
   rw[if_pos rfl] at ca
   rw[if_neg (Ne.symm hxy)] at cb
   rw[ec]
   exact .cls ca cb
  ·exact .pend (w5 _ hs')
end
section
variable {m e:Nat} {apps:List Key} {Rel:Nat→Nat→Prop}
theorem TabI.swap {A:Cl} {s:Zm0} {p:List Zm0} (hR:Cong m apps Rel) (h:TabI m e apps Rel A (s::p) []):TabI m e apps Rel A ((s.2.1,s.1,s.2.2)::p) []:=by
 refine⟨fun u hu=> ?_,h.t1,fun j q x y h1 h2 h3 h4=> ?_⟩
 ·rcases List.mem_cons.1 hu with rfl|hu
  ·obtain⟨a,b,c⟩:=h.pd s List.mem_cons_self
   exact⟨b,a,hR.symm c⟩
  ·exact h.pd u (List.mem_cons_of_mem _ hu)
 ·rcases h.t2 j q x y h1 h2 h3 h4 with h|⟨o,h5,h6⟩
  ·cases h
  ·refine .inr ⟨o,h5,h6.mono (fun a b k k1 k2=> .cls k1 k2) fun u hu=> ?_⟩
   rcases List.mem_cons.1 hu with rfl|hu
   ·exact(EqP.pend (s:=(u.2.1,u.1,u.2.2)) List.mem_cons_self).symm
   ·exact .pend (List.mem_cons_of_mem _ hu)
theorem TabI.drop {A:Cl} {s:Zm0} {p:List Zm0} {x:Nat} (h:TabI m e apps Rel A (s::p) []) (hx:A.cls[s.1]?=some x) (hy:A.cls[s.2.1]?=some x):TabI m e apps Rel A p []:=by
 refine⟨fun u hu=> h.pd u (List.mem_cons_of_mem _ hu),h.t1,fun j q x' y h1 h2 h3 h4=> ?_⟩
 rcases h.t2 j q x' y h1 h2 h3 h4 with h|⟨o,h5,h6⟩
 ·cases h
 ·refine .inr ⟨o,h5,h6.mono (fun a b k k1 k2=> .cls k1 k2) fun u hu=> ?_⟩
  rcases List.mem_cons.1 hu with rfl|hu
  ·exact .cls hx hy
  ·exact .pend hu
theorem zOy (hR:Cong m apps Rel) (hn:m+apps.length < 30000):∀(fu:Nat) (A:Cl) (p:List Zm0),Base m e apps Rel A→TabI m e apps Rel A p []→live (m+apps.length) A.cls * (2 * e+1)+p.length+(m+apps.length)+3≤fu→live (m+apps.length) A.cls * (2 * e+1)+p.length+2 * e < 100000→
 ∃A',ZEj m apps fu A p=some A'∧Base m e apps Rel A'∧TabI m e apps Rel A' [] []∧∀a b,EqP A.cls p a b→EqP A'.cls [] a b:=by
 intro fu
 induction fu with
 |zero=> intro A p _ _ h;omega
 |succ fu ih=>
  intro A p hB hT hfu hlt
  cases p with
  |nil=> exact⟨A,rfl,hB,hT,fun _ _ h=> h⟩
  |cons s p=>
   obtain⟨p1,p2,p3⟩:=hT.pd s List.mem_cons_self
   have lc:=hB.lc
   have k1:s.1 < A.cls.length:=by omega
   have k2:s.2.1 < A.cls.length:=by omega
   have hx:A.cls[s.1]?=some A.cls[s.1]:=List.getElem?_eq_getElem k1
   have hy:A.cls[s.2.1]?=some A.cls[s.2.1]:=List.getElem?_eq_getElem k2
   generalize A.cls[s.1]=x at hx
   generalize A.cls[s.2.1]=y at hy
   simp only[List.length_cons] at hfu hlt
   unfold ZEj
   simp only[hx,hy]
   by_cases hxy:x=y
   ·subst hxy
    rw[if_pos rfl]
    obtain⟨A',h1,h2,h3,h4⟩:=ih A p hB (hT.drop hx hy) (by omega) (by omega)
    refine⟨A',h1,h2,h3,fun a b h=> h4 a b (h.mono (fun a b k k1 k2=> .cls k1 k2) fun u hu=> ?_)⟩
    rcases List.mem_cons.1 hu with rfl|hu
    ·exact .cls hx hy
    ·exact .pend hu
   ·rw[if_neg hxy]
    obtain⟨mx,mx1,_⟩:=hB.cm _ _ hx
    obtain⟨my,my1,_⟩:=hB.cm _ _ hy
    simp only[mx1,my1]
    have hlive:1≤live (m+apps.length) A.cls:=by
     have hxn:x < m+apps.length:=by rw[←hB.lm];exact(List.getElem?_eq_some_iff.1 mx1).1
     unfold live
     have:x∈(List.range (m+apps.length)).filter fun k=> decide (k∈A.cls):=List.mem_filter.2 ⟨List.mem_range.2 hxn,by simpa using zjg.2 ⟨_,hx⟩⟩
     exact List.length_pos_of_mem this
    have hmul:2 * e+1≤live (m+apps.length) A.cls * (2 * e+1):=by
     have:=Nat.mul_le_mul_right (2 * e+1) hlive
     omega
    have fin:∀(x y:Nat) (s':Zm0),A.cls[s'.1]?=some x→A.cls[s'.2.1]?=some y→x≠y→TabI m e apps Rel A (s'::p) []→(∀a b,EqP A.cls (s::p) a b→EqP A.cls (s'::p) a b)→∃A'' p',ZEX m apps fu x y s' A p=some (A'',p')∧∃A',ZEj m apps fu A'' p'=some A'∧Base m e apps Rel A'∧TabI m e apps Rel A' [] []∧∀a b,EqP A.cls (s::p) a b→EqP A'.cls [] a b:=by
     intro x y s' hx hy hxy hT' hmono
     obtain⟨A2,p',j1,j2,j3,j4,j5,j6⟩:=zRk (fu:=fu) hR hn hB hT' hx hy hxy (by omega) (by omega)
     have hm2:(live (m+apps.length) A2.cls+1) * (2 * e+1)≤live (m+apps.length) A.cls * (2 * e+1):=Nat.mul_le_mul_right _ j5
     rw[Nat.add_mul,Nat.one_mul] at hm2
     obtain⟨A',h1,h2,h3,h4⟩:=ih A2 p' j2 j3 (by omega) (by omega)
     exact⟨A2,p',j1,A',h1,h2,h3,fun a b h=> h4 a b (j6 a b (hmono a b h))⟩
    by_cases hl:my.length < mx.length
    ·rw[if_pos hl]
     obtain⟨A2,p',j1,A',h1,h2⟩:=fin y x (s.2.1,s.1,s.2.2) hy hx (Ne.symm hxy) (hT.swap hR) (fun a b h=> h.mono (fun a b k k1 k2=> .cls k1 k2) fun u hu=> by
      rcases List.mem_cons.1 hu with rfl|hu
      ·exact(EqP.pend (s:=(u.2.1,u.1,u.2.2)) List.mem_cons_self).symm
      ·exact .pend (List.mem_cons_of_mem _ hu))
     exact⟨A',by rw[j1];exact h1,h2⟩
    ·rw[if_neg hl]
     obtain⟨A2,p',j1,A',h1,h2⟩:=fin x y s hx hy hxy hT (fun a b h=> h)
     exact⟨A',by rw[j1];exact h1,h2⟩
theorem zCv (n:Nat) (cls:List Nat):live n cls≤n:=by
 unfold live
 exact Nat.le_trans (List.length_filter_le _ _) (by simp)
theorem zPt (hR:Cong m apps Rel) (hn:m+apps.length < 40) {fu:Nat} {A:Cl} {q:Key} (hq:apps[e]?=some q) (hB:Base m e apps Rel A) (hT:TabI m e apps Rel A [] []) (hfu:10000≤fu):
 ∃A',ZFL m apps fu e q A=some A'∧Base m (e+1) apps Rel A'∧TabI m (e+1) apps Rel A' [] []∧∀a b,EqP A.cls [] a b→EqP A'.cls [] a b:=by
 have he:e < apps.length:=(List.getElem?_eq_some_iff.1 hq).1
 have lc:=hB.lc
 obtain⟨a1,a2⟩:=hB.ha _ _ hq
 have k1:q.1 < A.cls.length:=by omega
 have k2:q.2 < A.cls.length:=by omega
 have hx:A.cls[q.1]?=some A.cls[q.1]:=List.getElem?_eq_getElem k1
 have hy:A.cls[q.2]?=some A.cls[q.2]:=List.getElem?_eq_getElem k2
 generalize A.cls[q.1]=x at hx
 generalize A.cls[q.2]=y at hy
 obtain⟨mx,mx1,_⟩:=hB.cm _ _ hx
 obtain⟨my,my1,_⟩:=hB.cm _ _ hy
 have hxn:x < A.use.length:=by rw[hB.lu,←hB.lm];exact(List.getElem?_eq_some_iff.1 mx1).1
 have hyn:y < A.use.length:=by rw[hB.lu,←hB.lm];exact(List.getElem?_eq_some_iff.1 my1).1
 have ux1:A.use[x]?=some A.use[x]:=List.getElem?_eq_getElem hxn
 generalize A.use[x]=ux at ux1
 let U1:=A.use.set x (ux++[m+e])
 have hyn1:y < U1.length:=by simpa[U1] using hyn
 have uy1:U1[y]?=some U1[y]:=List.getElem?_eq_getElem hyn1
 generalize U1[y]=uy at uy1
 let U2:=U1.set y (uy++[m+e])
 have sum1:(U1.map List.length).sum=(A.use.map List.length).sum+1:=by
  have h1:=zwt (A.use.map List.length) x (ux++[m+e]).length (by simpa using hxn)
  rw[List.getElem?_map,ux1] at h1
  show((A.use.set x (ux++[m+e])).map List.length).sum=_
  rw[List.map_set]
  simp only[Option.map_some,Option.getD_some,List.length_append,List.length_cons,List.length_nil] at h1⊢
  omega
 have sum2:(U2.map List.length).sum=(A.use.map List.length).sum+2:=by
  have h1:=zwt (U1.map List.length) y (uy++[m+e]).length (by simpa using hyn1)
  rw[List.getElem?_map,uy1] at h1
  show((U1.set y (uy++[m+e])).map List.length).sum=_
  rw[List.map_set]
  simp only[Option.map_some,Option.getD_some,List.length_append,List.length_cons,List.length_nil] at h1⊢
  omega
 have b1:ux.length≤2 * e:=by
  have:=zyB (A.use.map List.length) x
  rw[List.getElem?_map,ux1] at this
  simp only[Option.map_some,Option.getD_some] at this
  have:=hB.ub
  omega
 have b2:uy.length≤2 * e+1:=by
  have:=zyB (U1.map List.length) y
  rw[List.getElem?_map,uy1] at this
  simp only[Option.map_some,Option.getD_some] at this
  have:=hB.ub
  omega
 have inU:∀(k:Nat) (l:List Nat),A.use[k]?=some l→∃l',U2[k]?=some l'∧(∀t∈l,t∈l'):=by
  intro k l hl
  have h1:∃l',U1[k]?=some l'∧∀t∈l,t∈l':=by
   by_cases hk:x=k
   ·subst hk
    rw[ux1] at hl;cases hl
    exact⟨_,List.getElem?_set_self hxn,fun t ht=> List.mem_append_left _ ht⟩
   ·exact⟨l,by show(A.use.set x _)[k]?=_;rw[List.getElem?_set_ne hk,hl],fun t ht=> ht⟩
  obtain⟨l1,h2,h3⟩:=h1
  by_cases hk:y=k
  ·subst hk
   rw[uy1] at h2;cases h2
   exact⟨_,List.getElem?_set_self hyn1,fun t ht=> List.mem_append_left _ (h3 t ht)⟩
  ·exact⟨l1,by show(U1.set y _)[k]?=_;rw[List.getElem?_set_ne hk,h2],h3⟩
 have inx:∃l',U2[x]?=some l'∧m+e∈l':=by
  by_cases hk:y=x
  ·subst hk;exact⟨_,List.getElem?_set_self hyn1,List.mem_append_right _ (List.mem_singleton.2 rfl)⟩
  ·refine⟨ux++[m+e],?_,List.mem_append_right _ (List.mem_singleton.2 rfl)⟩
   show(U1.set y _)[x]?=_
   rw[List.getElem?_set_ne hk]
   exact List.getElem?_set_self hxn
 have iny:∃l',U2[y]?=some l'∧m+e∈l':=⟨_,List.getElem?_set_self hyn1,List.mem_append_right _ (List.mem_singleton.2 rfl)⟩
 have utU:∀(k:Nat) (l:List Nat) (t:Nat),U2[k]?=some l→t∈l→m≤t∧t < m+(e+1):=by
  have u1:∀(k:Nat) (l:List Nat) (t:Nat),U1[k]?=some l→t∈l→m≤t∧t < m+(e+1):=by
   intro k l t h ht
   by_cases hk:x=k
   ·subst hk
    have:U1[x]?=some (ux++[m+e]):=List.getElem?_set_self hxn
    rw[this] at h;cases h
    rcases List.mem_append.1 ht with ht|ht
    ·have:=hB.ut _ _ _ ux1 ht;omega
    ·rw[List.mem_singleton.1 ht];omega
   ·have h:(A.use.set x (ux++[m+e]))[k]?=some l:=h
    rw[List.getElem?_set_ne hk] at h
    have:=hB.ut _ _ _ h ht;omega
  intro k l t h ht
  by_cases hk:y=k
  ·subst hk
   have:U2[y]?=some (uy++[m+e]):=List.getElem?_set_self hyn1
   rw[this] at h;cases h
   rcases List.mem_append.1 ht with ht|ht
   ·exact u1 _ _ _ uy1 ht
   ·rw[List.mem_singleton.1 ht];omega
  ·have h:(U1.set y (uy++[m+e]))[k]?=some l:=h
   rw[List.getElem?_set_ne hk] at h
   exact u1 _ _ _ h ht
 have B2:Base m (e+1) apps Rel {A with use:=U2}:=by
  refine⟨he,hB.ha,hB.lc,hB.lm,by simp[U2,U1,hB.lu],hB.ln,hB.lw,hB.cm,hB.mc,hB.mn,fun j q' k h1 h2 h3=> ?_,utU,by have:=hB.ub;show(U2.map List.length).sum≤_;omega,hB.fb,hB.fo,hB.rl⟩
  by_cases hj:j=e
  ·subst hj
   rw[hq] at h2;cases h2
   rcases h3 with h3|h3
   ·have h3:A.cls[q.1]?=some k:=h3
    rw[hx] at h3;cases h3;exact inx
   ·have h3:A.cls[q.2]?=some k:=h3
    rw[hy] at h3;cases h3;exact iny
  ·obtain⟨l,h4,h5⟩:=hB.us j q' k (by omega) h2 h3
   obtain⟨l',h6,h7⟩:=inU k l h4
   exact⟨l',h6,h7 _ h5⟩
 have hkey:ZEt m apps A.cls (m+e)=some (x,y):=by
  unfold ZEt
  rw[if_pos (by omega),show m+e - m=e by omega,hq]
  simp only[hx,hy]
 unfold ZFL
 simp only[hx,hy,ux1]
 rw[if_pos (by rw[List.length_append];simp only[List.length_cons,List.length_nil];omega)]
 have uy1':(A.use.set x (ux++[m+e]))[y]?=some uy:=uy1
 simp only[uy1']
 rw[if_pos (by rw[List.length_append];simp only[List.length_cons,List.length_nil];omega)]
 unfold ZFU
 simp only[hkey]
 cases hget:ZCL A.tab (x,y) with
 |none=>
  refine⟨_,rfl,B2.tab _,⟨fun s hs=> (by cases hs),fun x' y' o h=> ?_,fun j q' x' y' h1 h2 h3 h4=> .inr ?_⟩,fun a b h=> h⟩
  ·have h:ZCL (ZCS A.tab (x,y) (m+e)) (x',y')=some o:=h
   rw[zkq] at h
   split at h
   ·rename_i hk
    cases h;cases hk
    exact⟨e,q,rfl,by omega,hq,fun _=> hx,fun _=> hy⟩
   ·obtain⟨j,q',g1,g2,g3⟩:=hT.t1 x' y' o h
    exact⟨j,q',g1,by omega,g3⟩
  ·show∃o,ZCL (ZCS A.tab (x,y) (m+e)) (x',y')=some o∧EqP A.cls [] o (m+j)
   rw[zkq]
   by_cases hj:j=e
   ·subst hj
    rw[hq] at h2;cases h2
    have h3:A.cls[q.1]?=some x':=h3
    have h4:A.cls[q.2]?=some y':=h4
    rw[hx] at h3;rw[hy] at h4;cases h3;cases h4
    rw[if_pos rfl]
    have kt:m+j < A.cls.length:=by omega
    exact⟨_,rfl,.cls (List.getElem?_eq_getElem kt) (List.getElem?_eq_getElem kt)⟩
   ·rcases hT.t2 j q' x' y' (by omega) h2 h3 h4 with h|⟨o,h5,h6⟩
    ·cases h
    ·by_cases hk:(x',y')=(x,y)
     ·rw[hk] at h5;rw[h5] at hget;cases hget
     ·rw[if_neg hk];exact⟨o,h5,h6⟩
 |some o=>
  obtain⟨jo,qo,rfl,hjo,hqo,ho1,ho2⟩:=hT.t1 x y o hget
  have g1:=ho1 ⟨_,hx⟩
  have g2:=ho2 ⟨_,hy⟩
  have hl:=zCv (m+apps.length) A.cls
  have hmul:live (m+apps.length) A.cls * (2 * (e+1)+1)≤40 * 83:=Nat.mul_le_mul (by omega) (by omega)
  obtain⟨A',h1,h2,h3,h4⟩:=zOy (e:=e+1) hR (by omega) fu {A with use:=U2} [(m+e,m+jo, -1)] B2 (by
   refine⟨fun s hs=> ?_,fun x' y' o h=> ?_,fun j q' x' y' h1 h2 h3 h4=> .inr ?_⟩
   ·rw[List.mem_singleton.1 hs]
    exact⟨by show m+e < _;omega,by show m+jo < _;omega,hR.app hq hqo (hB.rl _ _ _ hx g1) (hB.rl _ _ _ hy g2)⟩
   ·obtain⟨j,q',g1,g2,g3⟩:=hT.t1 x' y' o h
    exact⟨j,q',g1,by omega,g3⟩
   ·by_cases hj:j=e
    ·subst hj
     rw[hq] at h2;cases h2
     have h3:A.cls[q.1]?=some x':=h3
     have h4:A.cls[q.2]?=some y':=h4
     rw[hx] at h3;rw[hy] at h4;cases h3;cases h4
     exact⟨_,hget,(EqP.pend (s:=(m+j,m+jo, -1)) (List.mem_singleton.2 rfl)).symm⟩
    ·rcases hT.t2 j q' x' y' (by omega) h2 h3 h4 with h|⟨o,h5,h6⟩
     ·cases h
     ·exact⟨o,h5,h6.mono (fun a b k k1 k2=> .cls k1 k2) fun s hs=> by cases hs⟩) (by
   show live (m+apps.length) A.cls * (2 * (e+1)+1)+1+(m+apps.length)+3≤fu
   omega) (by
   show live (m+apps.length) A.cls * (2 * (e+1)+1)+1+2 * (e+1) < 100000
   omega)
  exact⟨A',h1,h2,h3,fun a b h=> h4 a b (h.mono (fun a b k k1 k2=> .cls k1 k2) fun s hs=> by cases hs)⟩
end
section
variable {m e:Nat} {apps:List Key} {Rel:Nat→Nat→Prop}
theorem EqP.same {cls:List Nat} {a b:Nat} (h:EqP cls [] a b):∃k:Nat,cls[a]?=some k∧cls[b]?=some k:=by
 generalize hp:([]:List Zm0)=p at h
 induction h with
 |cls h1 h2=> exact⟨_,h1,h2⟩
 |pend h=> subst hp;cases h
 |symm _ ih=> obtain⟨k,h1,h2⟩:=ih;exact⟨k,h2,h1⟩
 |trans _ _ i1 i2=>
  obtain⟨k,h1,h2⟩:=i1
  obtain⟨k',h3,h4⟩:=i2
  rw[h2] at h3;cases h3
  exact⟨_,h1,h4⟩
theorem zDn (hR:Cong m apps Rel) (hn:m+apps.length < 40) {fu:Nat} (hfu:10000≤fu):∀(l:List Key) (e:Nat) (A:Cl),apps.drop e=l→e≤apps.length→Base m e apps Rel A→TabI m e apps Rel A [] []→
 ∃A',ZEI m apps fu l e A=some A'∧Base m apps.length apps Rel A'∧TabI m apps.length apps Rel A' [] []
 |[],e,A,hd,he,hB,hT=> by
  obtain rfl:e=apps.length:=by
   have:=congrArg List.length hd
   rw[List.length_drop] at this
   simp only[List.length_nil] at this
   omega
  exact⟨A,rfl,hB,hT⟩
 |q::l,e,A,hd,he,hB,hT=> by
  have hq:apps[e]?=some q:=by
   rw[←List.head?_drop,hd];rfl
  have he':e < apps.length:=(List.getElem?_eq_some_iff.1 hq).1
  obtain⟨A1,h1,h2,h3,_⟩:=zPt hR hn hq hB hT hfu
  obtain⟨A',h4,h5⟩:=zDn hR hn hfu l (e+1) A1 (by rw[←List.drop_drop,hd];rfl) he' h2 h3
  exact⟨A',by unfold ZEI;rw[h1];exact h4,h5⟩
theorem zCw (hR:Cong m apps Rel) (hn:m+apps.length < 40) {fu:Nat} (hfu:10000≤fu) {used:Nat→Bool}:∀(l:List Key) (i:Nat) (A:Cl),(∀(j:Nat) (p:Key),l[j]?=some p→p.1 < m+apps.length∧p.2 < m+apps.length∧(used (i+j)=true→Rel p.1 p.2))→Base m apps.length apps Rel A→TabI m apps.length apps Rel A [] []→
 ∃A',ZEg m apps fu used l i A=some A'∧Base m apps.length apps Rel A'∧TabI m apps.length apps Rel A' [] []∧(∀a b,EqP A.cls [] a b→EqP A'.cls [] a b)∧∀(j:Nat) (p:Key),l[j]?=some p→used (i+j)=true→EqP A'.cls [] p.1 p.2
 |[],i,A,hl,hB,hT=> ⟨A,rfl,hB,hT,fun _ _ h=> h,fun j p h=> by cases h⟩
 |p::l,i,A,hl,hB,hT=> by
  have hl':∀(j:Nat) (p:Key),l[j]?=some p→p.1 < m+apps.length∧p.2 < m+apps.length∧(used (i+1+j)=true→Rel p.1 p.2):=fun j q h=> by
   have:=hl (j+1) q h
   rw[show i+1+j=i+(j+1) by omega];exact this
  obtain⟨p1,p2,p3⟩:=hl 0 p rfl
  by_cases hu:used i=true
  ·have hlv:=zCv (m+apps.length) A.cls
   have he:=hB.he
   have hmul:live (m+apps.length) A.cls * (2 * apps.length+1)≤40 * 81:=Nat.mul_le_mul (by omega) (by omega)
   obtain⟨A1,h1,h2,h3,h4⟩:=zOy (e:=apps.length) hR (by omega) fu A [(p.1,p.2,(i:Int))] hB ⟨fun s hs=> by rw[List.mem_singleton.1 hs];exact⟨p1,p2,p3 hu⟩,hT.t1,fun j q x y g1 g2 g3 g4=> by
    rcases hT.t2 j q x y g1 g2 g3 g4 with h|⟨o,h5,h6⟩
    ·cases h
    ·exact .inr ⟨o,h5,h6.mono (fun a b k k1 k2=> .cls k1 k2) fun s hs=> by cases hs⟩⟩ (by simp only[List.length_cons,List.length_nil];omega) (by simp only[List.length_cons,List.length_nil];omega)
   obtain⟨A',r1,r2,r3,r4,r5⟩:=zCw hR hn hfu l (i+1) A1 hl' h2 h3
   refine⟨A',by unfold ZEg;rw[if_pos hu,h1];exact r1,r2,r3,fun a b h=> r4 a b (h4 a b (h.mono (fun a b k k1 k2=> .cls k1 k2) fun s hs=> by cases hs)),fun j q hj huj=> ?_⟩
   cases j with
   |zero=>
    cases hj
    exact r4 _ _ (h4 _ _ (.pend (s:=(p.1,p.2,(i:Int))) (List.mem_singleton.2 rfl)))
   |succ j=> exact r5 j q hj (by rw[show i+1+j=i+(j+1) by omega];exact huj)
  ·obtain⟨A',r1,r2,r3,r4,r5⟩:=zCw hR hn hfu l (i+1) A hl' hB hT
   refine⟨A',by unfold ZEg;rw[if_neg hu];exact r1,r2,r3,r4,fun j q hj huj=> ?_⟩
   cases j with
   |zero=> exact absurd huj hu
   |succ j=> exact r5 j q hj (by rw[show i+1+j=i+(j+1) by omega];exact huj)
theorem base0 (hR:Cong m apps Rel) (ha:∀(j:Nat) (q:Key),apps[j]?=some q→q.1 < m+j∧q.2 < m+j):Base m 0 apps Rel (cl0 (m+apps.length)):=by
 have hc:∀i k:Nat,(List.range (m+apps.length))[i]?=some k→i=k∧k < m+apps.length:=fun i k h=> by
  obtain⟨h1,h2⟩:=List.getElem?_eq_some_iff.1 h
  rw[List.getElem_range] at h2
  rw[List.length_range] at h1
  omega
 have hm:∀(k:Nat) (l:List Nat),(((List.range (m+apps.length)).map fun i=> [i])[k]?=some l)→l=[k]∧k < m+apps.length:=fun k l h=> by
  rw[List.getElem?_map] at h
  cases hr:(List.range (m+apps.length))[k]? with
  |none=> rw[hr] at h;cases h
  |some x=> rw[hr] at h;cases h;obtain⟨rfl,h⟩:=hc _ _ hr;exact⟨rfl,h⟩
 have hu:∀(k:Nat) (l:List Nat),(List.replicate (m+apps.length) ([]:List Nat))[k]?=some l→l=[]:=fun k l h=> by
  rw[List.getElem?_replicate] at h
  split at h
  ·cases h;rfl
  ·cases h
 refine⟨Nat.zero_le _,ha,by simp[cl0],by simp[cl0],by simp[cl0],by simp[cl0],by simp[cl0],fun i k h=> ?_,fun k l i h hi=> ?_,fun k l h=> ?_,fun j _ _ h=> by omega,fun k l t h ht=> ?_,?_,fun t u h=> ?_,⟨fun _=> 0,fun t u h=> ?_⟩,fun i j k h1 h2=> ?_⟩
 ·obtain⟨rfl,h1⟩:=hc i k h
  exact⟨[i],by show((List.range _).map _)[i]?=_;rw[List.getElem?_map,show(List.range (m+apps.length))[i]?=some i from h];rfl,List.mem_singleton.2 rfl⟩
 ·obtain⟨rfl,h1⟩:=hm k l h
  rw[List.mem_singleton.1 hi]
  show(List.range _)[k]?=_
  rw[List.getElem?_range h1]
 ·rw[(hm k l h).1];exact List.nodup_cons.2 ⟨by simp,.nil⟩
 ·rw[hu k l h] at ht;cases ht
 ·show((List.replicate (m+apps.length) ([]:List Nat)).map List.length).sum≤0
  rw[List.map_replicate];simp
 ·have h:(List.replicate (m+apps.length) (none:Option Nat))[t]?=some (some u):=h
  rw[List.getElem?_replicate] at h
  split at h <;> cases h
 ·have h:(List.replicate (m+apps.length) (none:Option Nat))[t]?=some (some u):=h
  rw[List.getElem?_replicate] at h
  split at h <;> cases h
 ·obtain⟨rfl,_⟩:=hc i k h1
  obtain⟨rfl,_⟩:=hc j _ h2
  exact hR.refl _
theorem ZKf:TabI m 0 apps Rel (cl0 (m+apps.length)) [] []:=⟨fun s hs=> (by cases hs),fun x y o h=> (by cases h),fun j _ _ _ h=> (by omega)⟩
structure Clo (m:Nat) (apps merges:List Key) (used:Nat→Bool) (A:Cl):Prop where
 base:Base m apps.length apps (fun _ _=> True) A
 mrg:∀(i:Nat) (p:Key),merges[i]?=some p→used i=true→∃k:Nat,A.cls[p.1]?=some k∧A.cls[p.2]?=some k
 app:∀(i j:Nat) (p q:Key) (x y:Nat),apps[i]?=some p→apps[j]?=some q→A.cls[p.1]?=some x→A.cls[q.1]?=some x→A.cls[p.2]?=some y→A.cls[q.2]?=some y→∃k:Nat,A.cls[m+i]?=some k∧A.cls[m+j]?=some k
 lst:∀Rel,Cong m apps Rel→(∀(i:Nat) (p:Key),merges[i]?=some p→used i=true→Rel p.1 p.2)→∀i j k:Nat,A.cls[i]?=some k→A.cls[j]?=some k→Rel i j
structure RightP (m:Nat) (apps merges:List Key):Prop where
 ha:∀(j:Nat) (q:Key),apps[j]?=some q→q.1 < m+j∧q.2 < m+j
 hm:∀(j:Nat) (q:Key),merges[j]?=some q→q.1 < m+apps.length∧q.2 < m+apps.length
theorem zXW {merges:List Key} {used:Nat→Bool} (hP:RightP m apps merges) (hn:m+apps.length < 40):∃A,ZEF apps merges m 10000 used=some A∧Clo m apps merges used A:=by
 have main:∀Rel,Cong m apps Rel→(∀(i:Nat) (p:Key),merges[i]?=some p→used i=true→Rel p.1 p.2)→∃A,ZEF apps merges m 10000 used=some A∧Base m apps.length apps Rel A∧TabI m apps.length apps Rel A [] []∧∀(j:Nat) (p:Key),merges[j]?=some p→used j=true→EqP A.cls [] p.1 p.2:=by
  intro Rel hR hM
  obtain⟨A1,h1,h2,h3⟩:=zDn hR hn (Nat.le_refl 10000) apps 0 (cl0 (m+apps.length)) rfl (Nat.zero_le _) (base0 hR hP.ha) ZKf
  obtain⟨A',r1,r2,r3,_,r5⟩:=zCw hR hn (Nat.le_refl 10000) (used:=used) merges 0 A1 (fun j p h=> by
   obtain⟨a,b⟩:=hP.hm j p h
   exact⟨a,b,fun hu=> hM j p h (by rw[Nat.zero_add] at hu;exact hu)⟩) h2 h3
  exact⟨A',by unfold ZEF;rw[h1];exact r1,r2,r3,fun j p h hu=> r5 j p h (by rw[Nat.zero_add];exact hu)⟩
 obtain⟨A,h1,h2,h3,h4⟩:=main (fun _ _=> True) ⟨fun _=> trivial,fun _=> trivial,fun _ _=> trivial,fun _ _ _ _=> trivial⟩ (fun _ _ _ _=> trivial)
 refine⟨A,h1,h2,fun i p hp hu=> (h4 i p hp hu).same,fun i j p q x y hp hq p1 q1 p2 q2=> ?_,fun Rel hR hM i j k hi hj=> ?_⟩
 ·have hi:=(List.getElem?_eq_some_iff.1 hp).1
  have hj:=(List.getElem?_eq_some_iff.1 hq).1
  rcases h3.t2 i p x y hi hp p1 p2 with h|⟨o,g1,g2⟩
  ·cases h
  rcases h3.t2 j q x y hj hq q1 q2 with h|⟨o',g3,g4⟩
  ·cases h
  rw[g1] at g3;cases g3
  exact(g2.symm.trans g4).same
 ·obtain⟨A',g1,g2,_⟩:=main Rel hR hM
  rw[h1] at g1;cases g1
  exact g2.rl i j k hi hj
structure LeastC (m:Nat) (apps merges:List Key) (used:Nat→Bool) (res:List Nat):Prop where
 len:res.length=m+apps.length
 rep:∀i r:Nat,res[i]?=some r→r≤i∧res[r]?=some r
 mrg:∀(i:Nat) (p:Key),merges[i]?=some p→used i=true→∃k:Nat,res[p.1]?=some k∧res[p.2]?=some k
 app:∀(i j:Nat) (p q:Key) (x y:Nat),apps[i]?=some p→apps[j]?=some q→res[p.1]?=some x→res[q.1]?=some x→res[p.2]?=some y→res[q.2]?=some y→∃k:Nat,res[m+i]?=some k∧res[m+j]?=some k
 lst:∀Rel,Cong m apps Rel→(∀(i:Nat) (p:Key),merges[i]?=some p→used i=true→Rel p.1 p.2)→∀i j k:Nat,res[i]?=some k→res[j]?=some k→Rel i j
theorem zNC:∀(l:List Nat) (a:Nat),ZDq a l∈a::l∧∀t∈a::l,ZDq a l≤t
 |[],a=> ⟨List.mem_singleton.2 rfl,fun t ht=> by rw[List.mem_singleton.1 ht];exact Nat.le_refl _⟩
 |b::l,a=> by
  obtain⟨h1,h2⟩:=zNC l (if b < a then b else a)
  have e:ZDq a (b::l)=ZDq (if b < a then b else a) l:=rfl
  rw[e]
  have h3:=h2 _ List.mem_cons_self
  have h4:ZDq (if b < a then b else a) l≤a∧ZDq (if b < a then b else a) l≤b:=by
   have h5:(if b < a then b else a)≤a∧(if b < a then b else a)≤b:=by split <;> omega
   omega
  refine⟨?_,fun t ht=> ?_⟩
  ·rcases List.mem_cons.1 h1 with h|h
   ·rw[h];split
    ·exact List.mem_cons_of_mem _ List.mem_cons_self
    ·exact List.mem_cons_self
   ·exact List.mem_cons_of_mem _ (List.mem_cons_of_mem _ h)
  ·rcases List.mem_cons.1 ht with rfl|ht
   ·exact h4.1
   ·rcases List.mem_cons.1 ht with rfl|ht
    ·exact h4.2
    ·exact h2 t (List.mem_cons_of_mem _ ht)
theorem zNQ {A:Cl} (hB:Base m e apps Rel A) (hn:m+apps.length < 100000):∀l:List Nat,(∀k∈l,k∈A.cls)→∃res,ZFx A l=some res∧res.length=l.length∧∀i k:Nat,l[i]?=some k→∃r:Nat,res[i]?=some r∧A.cls[r]?=some k∧∀t:Nat,A.cls[t]?=some k→r≤t
 |[],_=> ⟨[],rfl,rfl,fun i k h=> by cases h⟩
 |k::l,h=> by
  obtain⟨res,h1,h2,h3⟩:=zNQ hB hn l fun k hk=> h k (List.mem_cons_of_mem _ hk)
  obtain⟨i,hi⟩:=zjg.1 (h k List.mem_cons_self)
  obtain⟨ml,hm,him⟩:=hB.cm _ _ hi
  cases ml with
  |nil=> cases him
  |cons a q=>
   have hlen:(a::q).length < 100000:=by
    have:=zCA (hB.mn _ _ hm) (n:=m+apps.length) fun i hi=> by
     rw[←hB.lc];exact(List.getElem?_eq_some_iff.1 (hB.mc _ _ _ hm hi)).1
    omega
   obtain⟨m1,m2⟩:=zNC q a
   refine⟨ZDq a q::res,by unfold ZFx;simp only[hm,if_pos hlen,h1],by simp[h2],fun i' k' hk=> ?_⟩
   cases i' with
   |zero=>
    cases hk
    refine⟨_,rfl,hB.mc _ _ _ hm m1,fun t ht=> ?_⟩
    obtain⟨l',g1,g2⟩:=hB.cm _ _ ht
    rw[hm] at g1;cases g1
    exact m2 t g2
   |succ i'=> exact h3 i' k' hk
theorem Clo.least {merges:List Key} {used:Nat→Bool} {A:Cl} (h:Clo m apps merges used A) (hn:m+apps.length < 100000):∃res,ZFx A A.cls=some res∧LeastC m apps merges used res∧∀i j:Nat,i < m+apps.length→j < m+apps.length→(A.cls[i]?=A.cls[j]?↔res[i]?=res[j]?):=by
 obtain⟨res,h1,h2,h3⟩:=zNQ h.base hn A.cls fun k hk=> hk
 have lc:=h.base.lc
 have get:∀i:Nat,i < m+apps.length→∃k:Nat,A.cls[i]?=some k:=fun i hi=> ⟨_,List.getElem?_eq_getElem (by omega)⟩
 have val:∀i r:Nat,res[i]?=some r→∃k:Nat,A.cls[i]?=some k∧A.cls[r]?=some k∧∀t:Nat,A.cls[t]?=some k→r≤t:=fun i r hr=> by
  have hi:=(List.getElem?_eq_some_iff.1 hr).1
  obtain⟨k,hk⟩:=get i (by omega)
  obtain⟨r',q1,q2,q3⟩:=h3 i k hk
  rw[hr] at q1;cases q1
  exact⟨k,hk,q2,q3⟩
 have same:∀i j k:Nat,A.cls[i]?=some k→A.cls[j]?=some k→∃r:Nat,res[i]?=some r∧res[j]?=some r:=fun i j k hi hj=> by
  obtain⟨r,q1,q2,q3⟩:=h3 i k hi
  obtain⟨r',q4,q5,q6⟩:=h3 j k hj
  have:r=r':=Nat.le_antisymm (q3 _ q5) (q6 _ q2)
  subst this
  exact⟨r,q1,q4⟩
 have back:∀i j r:Nat,res[i]?=some r→res[j]?=some r→∃k:Nat,A.cls[i]?=some k∧A.cls[j]?=some k:=fun i j r hi hj=> by
  obtain⟨k,a1,a2,_⟩:=val i r hi
  obtain⟨k',b1,b2,_⟩:=val j r hj
  rw[a2] at b2;cases b2
  exact⟨_,a1,b1⟩
 refine⟨res,h1,⟨by omega,fun i r hr=> ?_,fun i p hp hu=> ?_,fun i j p q x y hp hq p1 q1 p2 q2=> ?_,fun Rel hR hM i j k hi hj=> ?_⟩,fun i j hi hj=> ?_⟩
 ·obtain⟨k,a1,a2,a3⟩:=val i r hr
  refine⟨a3 i a1,?_⟩
  obtain⟨r',b1,b2⟩:=same i r k a1 a2
  rw[hr] at b1;cases b1;exact b2
 ·obtain⟨k,a1,a2⟩:=h.mrg i p hp hu
  exact same _ _ k a1 a2
 ·obtain⟨k1,a1,a2⟩:=back _ _ _ p1 q1
  obtain⟨k2,b1,b2⟩:=back _ _ _ p2 q2
  obtain⟨k,c1,c2⟩:=h.app i j p q k1 k2 hp hq a1 a2 b1 b2
  exact same _ _ k c1 c2
 ·obtain⟨k',a1,a2⟩:=back _ _ _ hi hj
  exact h.lst Rel hR hM i j k' a1 a2
 ·obtain⟨k,hk⟩:=get i hi
  obtain⟨k',hk'⟩:=get j hj
  constructor
  ·intro hh
   rw[hh,hk'] at hk;cases hk
   obtain⟨r,b1,b2⟩:=same i j k (by rw[hh];exact hk') hk'
   rw[b1,b2]
  ·intro hh
   obtain⟨r,b1,b2,b3⟩:=h3 i k hk
   obtain⟨r',c1,c2,c3⟩:=h3 j k' hk'
   rw[b1,c1] at hh;cases hh
   rw[b2] at c2;cases c2
   rw[hk,hk']
theorem LeastC.cong {merges:List Key} {used:Nat→Bool} {res:List Nat} (hP:RightP m apps merges) (h:LeastC m apps merges used res):Cong m apps (fun a b=> res[a]?=res[b]?):=by
 refine⟨fun _=> rfl,fun h=> h.symm,fun h1 h2=> h1.trans h2,fun {j k p q} hp hq h1 h2=> ?_⟩
 have hl:=h.len
 have hj:=(List.getElem?_eq_some_iff.1 hp).1
 have:=hP.ha j p hp
 have k1:p.1 < res.length:=by omega
 have k2:p.2 < res.length:=by omega
 have e1:res[p.1]?=some res[p.1]:=List.getElem?_eq_getElem k1
 have e2:res[p.2]?=some res[p.2]:=List.getElem?_eq_getElem k2
 obtain⟨k',a,b⟩:=h.app j k p q _ _ hp hq e1 (h1 ▸ e1) e2 (h2 ▸ e2)
 rw[a,b]
theorem LeastC.le {merges:List Key} {used:Nat→Bool} {res res':List Nat} (hP:RightP m apps merges) (h:LeastC m apps merges used res) (h':LeastC m apps merges used res') {i r r':Nat} (hr:res[i]?=some r) (hr':res'[i]?=some r'):r'≤r:=by
 obtain⟨_,a2⟩:=h.rep i r hr
 have:=h.lst _ (h'.cong hP) (fun i p hp hu=> by
  obtain⟨k,b1,b2⟩:=h'.mrg i p hp hu
  rw[b1,b2]) i r r hr a2
 rw[hr'] at this
 exact(h'.rep r r' this.symm).1
theorem zDo {m:Nat}:∀{l:List PrI} {i:Nat},ZDk m l i=true→∀(j:Nat) (q:Key),(toK l)[j]?=some q→q.1 < m+(i+j)∧q.2 < m+(i+j)
 |[],_,_,j,q,h=> by cases h
 |p::l,i,h,j,q,hj=> by
  unfold ZDk at h
  rw[Bool.and_eq_true] at h
  cases j with
  |zero=>
   cases hj
   have:=zjp h.1
   exact⟨by show p.1.toNat < _;omega,by show p.2.toNat < _;omega⟩
  |succ j=>
   have:=zDo h.2 j q hj
   omega
theorem zCV {m:Nat} {la lm:List PrI} (h:ZCt m la lm=0):RightP m (toK la) (toK lm):=by
 have hok:ZDk m la 0=true∧ZDv (m+la.length) lm=true:=by
  unfold ZCt at h
  rw[if_neg (by omega)] at h
  split at h
  ·assumption
  ·cases h
 refine⟨fun j q hj=> by have:=zDo hok.1 j q hj;omega,fun j q hj=> ?_⟩
 unfold toK at hj
 rw[List.getElem?_map] at hj
 cases hp:lm[j]? with
 |none=> rw[hp] at hj;cases hj
 |some p=>
  rw[hp] at hj;cases hj
  have:=zjp (List.all_eq_true.1 hok.2 p (List.mem_of_getElem? hp))
  rw[Qe]
  exact⟨by show p.1.toNat < _;omega,by show p.2.toNat < _;omega⟩
end
end
end Go.Proofs.YtdlaladdeelegaaGreat.Cg
end
