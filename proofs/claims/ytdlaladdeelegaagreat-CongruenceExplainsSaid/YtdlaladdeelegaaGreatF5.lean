/- The statement, computed. -/
import Derived.Test.YtdlaladdeelegaaGreatF4
set_option linter.all false
noncomputable section
namespace Go.Ae
section
section
def ZCW (n:Nat) (Q:Ex→(Nat→V)→Nat→(Nat→Blk)→List Nat→Prop) (x:Option (List (Ex×St))):Prop:=∃e f nb g d,x=some [(e,S n f [] (mkH nb g d))]∧Q e f nb g d
theorem ZCW.mk {n:Nat} {Q:Ex→(Nat→V)→Nat→(Nat→Blk)→List Nat→Prop} {e:Ex} {f:Nat→V} {nb:Nat} {g:Nat→Blk} {d:List Nat} (h:Q e f nb g d):ZCW n Q (some [(e,S n f [] (mkH nb g d))]):=⟨e,f,nb,g,d,rfl,h⟩
theorem ZCW.weak {n:Nat} {Q Q':Ex→(Nat→V)→Nat→(Nat→Blk)→List Nat→Prop} {x:Option (List (Ex×St))} (h:ZCW n Q x) (hq:∀e f nb g d,Q e f nb g d→Q' e f nb g d):ZCW n Q' x:=by
 obtain⟨e,f,nb,g,d,rfl,h⟩:=h
 exact⟨e,f,nb,g,d,rfl,hq _ _ _ _ _ h⟩
theorem ZCW.seq {n:Nat} {P:(Nat→V)→Nat→(Nat→Blk)→List Nat→Prop} {Q':Ex→(Nat→V)→Nat→(Nat→Blk)→List Nat→Prop} {x:Option (List (Ex×St))} {k:St→Option (List (Ex×St))} (h:ZCW n (fun e f nb g d=> e=.normal∧P f nb g d) x)
 (hk:∀f nb g d,P f nb g d→ZCW n Q' (k (S n f [] (mkH nb g d)))):ZCW n Q' (thenV x k):=by
 obtain⟨e,f,nb,g,d,rfl,rfl,h⟩:=h
 exact hk f nb g d h
theorem ZCW.block {n id:Nat} {Q Q':Ex→(Nat→V)→Nat→(Nat→Blk)→List Nat→Prop} {x:Option (List (Ex×St))} (h:ZCW n Q x) (he:∀f nb g d,Q (.exit id) f nb g d→Q' .normal f nb g d)
 (ho:∀e f nb g d,e≠.exit id→Q e f nb g d→Q' e f nb g d):ZCW n Q' (ZmZ id x):=by
 obtain⟨e,f,nb,g,d,rfl,hq⟩:=h
 by_cases hi:e=.exit id
 ·subst hi
  rw[Zo]
  exact⟨_,f,nb,g,d,rfl,he _ _ _ _ hq⟩
 ·have:ZmZ id (some [(e,S n f [] (mkH nb g d))])=some [(e,S n f [] (mkH nb g d))]:=by
   cases e with
   |exit i=> exact zyN (fun hh=> hi (by rw[hh])) _
   |_=> rfl
  rw[this]
  exact⟨_,f,nb,g,d,rfl,ho _ _ _ _ _ hi hq⟩
def ZFo (Q:V→Nat→(Nat→Blk)→List Nat→Prop) (x:Option (List (R×H))):Prop:=∃v nb g d,x=some [(.ret v,mkH nb g d)]∧Q v nb g d
theorem ZFo.mk {Q:V→Nat→(Nat→Blk)→List Nat→Prop} {v:V} {nb:Nat} {g:Nat→Blk} {d:List Nat} (h:Q v nb g d):ZFo Q (some [(.ret v,mkH nb g d)]):=⟨v,nb,g,d,rfl,h⟩
theorem ZCW.rets {P:Program} {hint:Hint} {known:Known} {fn:Func} {n:Nat} {Q:Ex→(Nat→V)→Nat→(Nat→Blk)→List Nat→Prop} {Q':V→Nat→(Nat→Blk)→List Nat→Prop} {x:Option (List (Ex×St))} (h:ZCW n Q x)
 (hr:∀e f nb g d,Q e f nb g d→ZFo Q' (Zm1 P hint known fn (some [(e,S n f [] (mkH nb g d))]))):ZFo Q' (Zm1 P hint known fn x):=by
 obtain⟨e,f,nb,g,d,rfl,hq⟩:=h
 exact hr e f nb g d hq
theorem ZCv.then {n:Nat} {h:H} {Q Q':Ex→(Nat→V)→Prop} {x:Option (List (Ex×St))} {k:St→Option (List (Ex×St))} (hx:ZCv n h Q x) (hk:∀f,Q .normal f→ZCv n h Q' (k (S n f [] h))) (ho:∀e f,e≠.normal→Q e f→Q' e f):ZCv n h Q' (thenV x k):=by
 obtain⟨e,f,rfl,hq⟩:=hx
 cases e with
 |normal=> exact hk f hq
 |_=> exact⟨_,f,rfl,ho _ _ (by simp) hq⟩
theorem ZCv.block {n id:Nat} {h:H} {Q Q':Ex→(Nat→V)→Prop} {x:Option (List (Ex×St))} (hx:ZCv n h Q x) (he:∀f,Q (.exit id) f→Q' .normal f) (ho:∀e f,e≠.exit id→Q e f→Q' e f):ZCv n h Q' (ZmZ id x):=by
 obtain⟨e,f,rfl,hq⟩:=hx
 by_cases hi:e=.exit id
 ·subst hi
  rw[Zo]
  exact⟨_,f,rfl,he _ hq⟩
 ·have:ZmZ id (some [(e,S n f [] h)])=some [(e,S n f [] h)]:=by
   cases e with
   |exit i=> exact zyN (fun hh=> hi (by rw[hh])) _
   |_=> rfl
  rw[this]
  exact⟨_,f,rfl,ho _ _ hi hq⟩
theorem zNR {α:Type} {n:Nat} (g:Nat→α):∀k f,n < 2 ^ f→mkT (f+k) n g=mkT f n g:=by
 intro k
 induction k with
 |zero=> intro f h;rfl
 |succ k ih=>
  intro f h
  rw[←Nat.add_assoc,zwj _ _ _ (Nat.lt_of_lt_of_le h (Nat.pow_le_pow_right (by omega) (by omega))),ih f h]
theorem zXO {α:Type} {n:Nat} (h:n < 1048576) (g:Nat→α):mkT 20 n g=mkT n n g:=by
 by_cases hn:n≤20
 ·have:=zNR g (20 - n) n (Nat.lt_two_pow_self)
  rw[show n+(20 - n)=20 by omega] at this
  exact this
 ·have:=zNR g (n - 20) 20 (n:=n) (by simpa using h)
  rw[show 20+(n - 20)=n by omega] at this
  exact this.symm
theorem zX4 (get:Nat→Blk) {n r:Nat} (h:n < 1048576):H.only get n [r]=mkH n (at1 (fun _=> .resv) r (get r)) []:=by
 unfold H.only mkH
 simp only[List.foldl,zwP,QU,zXO h]
variable {P:Program} {hint:Hint} {known:Known}
theorem zPH {E:Ev} {get:Nat→Blk} {n r:Nat} {f:FuncId} {args:List V} {cs:List V} {v:V} {g1:Nat→Blk} {d1:List Nat} (hp:V.pures (V.seals args)=false) (hi:V.idss args=[r]) (hr:r < n) (hn:n < 1048576) (hg:get r=.row 0 cs) (hc:V.idss cs=[])
 (hE:E.call f args (mkH n (at1 (fun _=> .resv) r (get r)) [])=some [(.ret v,mkH n g1 d1)]) (hd:∀x∈d1,x=r) {cs1:List V} (hg1:g1 r=.row 0 cs1):
 ZDd hint known E get n (some (.func f args))=some {v:=v,rd:=[r],wr:=if r∈d1 then [(r,.row 0 cs1)] else [],nw:=[]}:=by
 have hreach:reach get 1000 [r] []=some [r]:=by
  unfold reach
  rw[if_neg (by simp),hg]
  simp only[Blk.plain,if_true,Blk.ids,hc,List.nil_append]
  unfold reach
  rfl
 unfold ZDd
 simp only[hp,Bool.false_eq_true,if_false,hi,hreach,zX4 get hn,hE]
 have h1:([r].all fun r=> Nat.blt r n)=true:=by simp[Nat.blt_eq,hr]
 have h2:Nat.blt n (2 ^ 20)=true:=by rw[Nat.blt_eq];exact hn
 have h3:(Nat.ble n (mkH n g1 d1).n && (mkH n g1 d1).dirty.all (fun x=> Nat.ble n x||[r].contains x) && [r].all fun x=> kindOk ((mkH n g1 d1).get x) (get x))=true:=by
  have a1:Nat.ble n (mkH n g1 d1).n=true:=by rw[Nat.ble_eq];exact Nat.le_refl _
  have a2:((mkH n g1 d1).dirty.all fun x=> Nat.ble n x||[r].contains x)=true:=by
   rw[List.all_eq_true]
   intro x hx
   rw[hd x hx]
   simp
  have a3:([r].all fun x=> kindOk ((mkH n g1 d1).get x) (get x))=true:=by
   simp only[List.all_cons,List.all_nil,Bool.and_true,Zj hr,hg1]
   rfl
  rw[a1,a2,a3];rfl
 rw[h1,h2]
 simp only[Bool.and_self,if_true]
 rw[if_pos h3]
 have e1:(mkH n g1 d1).n - n=0:=Nat.sub_self _
 rw[e1]
 have e2:(mkH n g1 d1).from 0 n=[]:=rfl
 rw[e2]
 have e3:([r].filter (mkH n g1 d1).dirty.contains).map (fun x=> (x,(mkH n g1 d1).get x))=if r∈d1 then [(r,Blk.row 0 cs1)] else []:=by
  have:(mkH n g1 d1).dirty=d1:=rfl
  rw[this]
  by_cases hm:r∈d1
  ·have hm':d1.contains r=true:=by rw[List.contains_iff_mem];exact hm
   rw[if_pos hm,List.filter_cons_of_pos hm']
   simp only[List.filter_nil,List.map_cons,List.map_nil,Zj hr,hg1]
  ·have hm':¬d1.contains r=true:=by rw[List.contains_iff_mem];exact hm
   rw[if_neg hm,List.filter_cons_of_neg hm']
   rfl
 rw[e3]
end
end
end Go.Ae
namespace Go.Proofs.YtdlaladdeelegaaGreat.Cg
section
open Go Go.Ae
attribute [local simp] ZCl ZF JC JB ZR ZS Zo ZE Jx Jw Jq Zw Zk S_h ZH Zz ZM ZK ZL zt ZO ZN Z7 Zj Jp Z8 JD JE Zt Z0 ZCD ZP ZQ zq zB zz zA zo Z5 zr zO Jy Jz JG JH Z1 Z2 Z3 Z4 ZI Zy JF ZT ZW ZB ZA ZY ZX ZZ ZnB Zi3 V.ones Je Jd Jh Jg Jf Ji Jn Jo Jm ZV Jk Jl Jj zK ZU zL JA Jt Js Ju Jr Jv Ja Jb Jc Z9 max2 cond_true cond_false List.nil_append List.cons_append zVk ZJL zU1 zUZ zU0 zU2 zVh zU3 zU4 zU9 zVa zVb zVc zVd zVe zVf zVg zU5 zU6 zU7 zU8 zVi
section
attribute [local simp] ld3 ZC2 ZCB ZCG ZDP ZCK ZCP ZDN ZCH sz3 ZCR ZCx ZCz JO zK zL
def ZEU (t:Int) (la lm:List PrI):Bool:=decide (t≤16) && decide ((la.length:Int)≤16) && decide ((lm.length:Int)≤16)
theorem zQB {t:Int} {la lm:List PrI} {av mv:V} (hA:InS av la) (hM:InS mv lm) (h:H):ZCi Tryz.prog hs ks 7 [.int .i64 t,av,mv] h=some [(.ret (.bool (ZEU t la lm)),h)]:=by
 obtain⟨hA',pa⟩:=hA.shut
 obtain⟨hM',pm⟩:=hM.shut
 generalize hav:V.shut av=av' at hA' pa
 generalize hmv:V.shut mv=mv' at hM' pm
 have key:ZCm (fun v _ _=> v=.bool (ZEU t la lm)) ((EV Tryz.prog hs ks).call 7 [.int .i64 t,av',mv'] (mkH 0 (fun _=> .gone) [])):=by
  have la1:=ZC4 hA'
  have lm1:=ZC4 hM'
  rw[zVj _ (by simp)]
  by_cases h1:t≤16
  ·by_cases h2:(la.length:Int)≤16
   ·simp(disch:=first|assumption|decide|omega)[h1,h2,la1,lm1]
    refine ZCm.mk ?_
    simp[ZEU,h1,h2]
   ·simp(disch:=first|assumption|decide|omega)[h1,h2,la1,lm1]
    refine ZCm.mk ?_
    simp[ZEU,h1,h2]
  ·simp(disch:=first|assumption|decide|omega)[h1,la1,lm1]
   refine ZCm.mk ?_
   simp[ZEU,h1]
 obtain⟨v,nb',g',d',hc,rfl⟩:=key
 exact QV (args':=[.int .i64 t,av',mv']) (by show[V.shut (.int .i64 t),V.shut av,V.shut mv]=_;rw[hav,hmv];rfl) (by show(V.pure (.int .i64 t) && (V.pure av' && (V.pure mv' && true)))=true;rw[pa,pm];rfl) (QT (by decide)) rfl hc (fun n=> rfl) h
theorem zDC (t:Int) (la lm:List PrI):ZCt t la lm=0∨ZCt t la lm=2:=by
 unfold ZCt;split
 ·exact .inr rfl
 ·split
  ·exact .inl rfl
  ·exact .inr rfl
end
end
section
open Go Go.Ae
attribute [local simp] ZCl ZF JC JB ZR ZS Zo ZE Jx Jw Jq Zw Zk S_h ZH Zz ZM ZK ZL zt ZO ZN Z7 Zj Jp Z8 JD JE Zt Z0 ZCD ZP ZQ zq zB zz zA zo Z5 zr zO Jy Jz JG JH Z1 Z2 Z3 Z4 ZI Zy JF ZT ZW ZB ZA ZY ZX ZZ ZnB Zi3 V.ones Je Jd Jh Jg Jf Ji Jn Jo Jm ZV Jk Jl Jj zK ZU zL JA Jt Js Ju Jr Jv Ja Jb Jc Z9 max2 cond_true cond_false List.nil_append List.cons_append
section
attribute [local simp] ld3 ZC2 ZCB ZCG ZCN ZCK ZCH JR JS sz3 ZCx ZCz sp2 JO zK zL JY JX
attribute [-simp] zo zr zq zz zA zB zO max2
theorem lt0 {a:Nat}:ZmK .lss .i64 (a:Int) .i64 0=some (.bool false):=by rw[zo,decide_eq_false (by omega)]
theorem geN {a b:Nat}:ZmK .geq .i64 (a:Int) .i64 (b:Int)=some (.bool (decide (b≤a))):=by rw[zO];congr 2;simp
theorem ZHG {get:Nat→Blk} {nid:Nat} {ts:List TypeId} {a b:Nat}:ZmL Tryz.prog false get nid .min ts [nv a,nv b]=some {v:=nv (min a b)}:=by
 rw[min2]
 congr 3
 by_cases h:b < a
 ·rw[if_pos (by omega)];omega
 ·rw[if_neg (by omega)];omega
theorem ZHF {get:Nat→Blk} {nid:Nat} {ts:List TypeId} {a b:Nat}:ZmL Tryz.prog false get nid .max ts [nv a,nv b]=some {v:=nv (max a b)}:=by
 rw[max2]
 congr 3
 by_cases h:a < b
 ·rw[if_pos (by omega)];omega
 ·rw[if_neg (by omega)];omega
attribute [local simp] lt0 ZHG ZHF
end
section
attribute [local simp] ld3 ZC2 ZCB ZCG ZCN ZCK ZCH JR JS sz3 ZCx ZCz sp2 JO zK zL JY JX lt0
attribute [-simp] zo zr zq zz zA zB zO max2
theorem zkF (h:H):ZCi Tryz.prog hs ks 8 [] h=some [(.ret (.bool true),h)]:=zPM (args':=[]) rfl rfl (by show(if (8:Nat)=8∧([]:List V)=[] then some (V.bool true) else none)=_;rw[if_pos ⟨rfl,rfl⟩]) h
end
section
attribute [local simp] ld3 ZC2 ZCB ZCG ZCN ZCK ZCH JR JS sz3 ZCx ZCz sp2 JO zK zL JY JX lt0 ZEE zac
attribute [-simp] zo zr zq zz zA zB zO max2
theorem ok5:okT Tryz.prog 5=true:=by kernel_rfl
theorem SlR.get {g:Nat→Blk} {lo nb:Nat} {v:V} {l:List Nat} (h:SlR g lo nb v l) (hl:l≠[]):∃o,v=.vs (ints l) l.length 1 o:=by
 rcases h with ⟨_,h⟩|h|⟨r,h,_⟩
 ·exact absurd h hl
 ·exact⟨_,h⟩
 ·exact⟨_,h⟩
end
section
attribute [local simp] ld3 ZC2 ZCB ZCG ZCN ZCK ZCH JR JS sz3 ZCx ZCz sp2 JO zK zL JY JX lt0 ZEE zac ZHG ZHF
attribute [-simp] zo zr zq zz zA zB zO max2
structure SVals (m:Nat) (M:List Nat) (la:List PrI) (i:Nat) (vals:List Nat):Prop where
 len:vals.length=m+i
 lt4:∀x∈vals,x < 4
 ok:∀(j:Nat) (p:PrI),la[j]?=some p→j < i→wit p ((m:Int)+j)=true
 val:∀(j:Nat) (p:PrI),la[j]?=some p→j < i→∃x y a:Nat,vals[p.1.toNat]?=some x∧vals[p.2.toNat]?=some y∧M[16+(4 * x+y)]?=some a∧vals[m+j]?=some (a % 4)
theorem SVals.app {m i:Nat} {M vals:List Nat} {la:List PrI} (h:SVals m M la i vals) {x y vx vy a:Nat} (hg:la[i]?=some ((x:Int),(y:Int))) (hx:vals[x]?=some vx) (hy:vals[y]?=some vy) (ha:M[16+(4 * vx+vy)]?=some a):SVals m M la (i+1) (vals++[a % 4]):=by
 have hl:=h.len
 have lx:=(List.getElem?_eq_some_iff.1 hx).1
 have ly:=(List.getElem?_eq_some_iff.1 hy).1
 have up:∀(t z:Nat),vals[t]?=some z→(vals++[a % 4])[t]?=some z:=fun t z ht=> by
  rw[List.getElem?_append_left (List.getElem?_eq_some_iff.1 ht).1];exact ht
 refine⟨by rw[List.length_append,hl];rfl,fun z hz=> ?_,fun j p hj hji=> ?_,fun j p hj hji=> ?_⟩
 ·rcases List.mem_append.1 hz with hz|hz
  ·exact h.lt4 z hz
  ·rw[List.mem_singleton.1 hz];omega
 ·by_cases hj':j=i
  ·subst hj'
   rw[hg] at hj;cases hj
   simp only[wit,Bool.and_eq_true,decide_eq_true_eq]
   omega
  ·exact h.ok j p hj (by omega)
 ·by_cases hj':j=i
  ·subst hj'
   rw[hg] at hj;cases hj
   refine⟨vx,vy,a,up _ _ hx,up _ _ hy,ha,?_⟩
   rw[List.getElem?_append_right (by omega),show m+j - vals.length=0 by omega];rfl
  ·obtain⟨x',y',a',h1,h2,h3,h4⟩:=h.val j p hj (by omega)
   exact⟨x',y',a',up _ _ h1,up _ _ h2,h3,up _ _ h4⟩
theorem ZGY {get:Nat→Blk} {nid:Nat} {ts:List TypeId} {a b:Int}:ZmL Tryz.prog false get nid .min ts [.int .i64 a,.int .i64 b]=some {v:=.int .i64 (min a b)}:=by
 rw[min2]
 congr 3
 rw[Int.min_def];split <;> split <;> omega
theorem ZGX {get:Nat→Blk} {nid:Nat} {ts:List TypeId} {a b:Int}:ZmL Tryz.prog false get nid .max ts [.int .i64 a,.int .i64 b]=some {v:=.int .i64 (max a b)}:=by
 rw[max2]
 congr 3
 rw[Int.max_def];split <;> split <;> omega
end
end
section
section
variable {m e:Nat} {apps merges:List Key} {used:Nat→Bool}
inductive Lk (L:List Zm0):Nat→Nat→Prop
 |refl (a:Nat):Lk L a a
 |edge {s:Zm0}:s∈L→Lk L s.1 s.2.1
 |symm {a b:Nat}:Lk L a b→Lk L b a
 |trans {a b c:Nat}:Lk L a b→Lk L b c→Lk L a c
theorem Lk.mono {L L':List Zm0} (h:∀s∈L,s∈L') {a b:Nat} (hl:Lk L a b):Lk L' a b:=by
 induction hl with
 |refl a=> exact .refl a
 |edge hs=> exact .edge (h _ hs)
 |symm _ ih=> exact ih.symm
 |trans _ _ i1 i2=> exact i1.trans i2
def Ed (A:Cl) (t u:Nat) (s:Zm0):Prop:=Nx A.nxt t u∧A.why[t]?=some s∧((s.1=t∧s.2.1=u)∨(s.1=u∧s.2.1=t))
theorem Ed.set {A:Cl} {t nx u v:Nat} {w s:Zm0} (h:Ed A u v s) (hu:u≠t):Ed {A with nxt:=A.nxt.set t (some nx),why:=A.why.set t w} u v s:=by
 obtain⟨h1,h2,h3⟩:=h
 refine⟨?_,?_,h3⟩
 ·show(A.nxt.set t (some nx))[u]?=_
  rw[List.getElem?_set_ne (Ne.symm hu)];exact h1
 ·show(A.why.set t w)[u]?=_
  rw[List.getElem?_set_ne (Ne.symm hu)];exact h2
theorem ZBU (P:Zm0→Prop):∀(fu:Nat) (at':Option Nat) (nx:Nat) (w:Zm0) (A A':Cl),ZDR fu at' nx w A=some A'→(∀t,at'=some t→P w∧((w.1=t∧w.2.1=nx)∨(w.1=nx∧w.2.1=t)))→(∀t u,Nx A.nxt t u→∃s,P s∧Ed A t u s)→
 (∀t u,Nx A'.nxt t u→∃s,P s∧Ed A' t u s)∧∀s,((∃t u,Ed A t u s)∨(at'≠none∧s=w))→∃t u,Ed A' t u s:=by
 intro fu
 induction fu with
 |zero=> intro _ _ _ _ _ h;cases h
 |succ fu ih=>
  intro at' nx w A A' h hw hP
  cases at' with
  |none=>
   obtain rfl:=Option.some.inj h
   refine⟨hP,fun s hs=> ?_⟩
   rcases hs with hs|⟨hs,_⟩
   ·exact hs
   ·exact absurd rfl hs
  |some t=>
   obtain⟨w1,w2⟩:=hw t rfl
   simp only[ZDR] at h
   split at h
   case h_2=> cases h
   rename_i old reason e1 e2
   have tl1:=(List.getElem?_eq_some_iff.1 e1).1
   have tl2:=(List.getElem?_eq_some_iff.1 e2).1
   have new:Ed {A with nxt:=A.nxt.set t (some nx),why:=A.why.set t w} t nx w:=⟨List.getElem?_set_self tl1,List.getElem?_set_self tl2,w2⟩
   have hold:∀o,old=some o→P reason∧((reason.1=o∧reason.2.1=t)∨(reason.1=t∧reason.2.1=o)):=fun o ho=> by
    subst ho
    obtain⟨s,s1,s2,s3,s4⟩:=hP t o e1
    rw[e2] at s3;cases s3
    exact⟨s1,s4.symm⟩
   obtain⟨r1,r2⟩:=ih old t reason _ A' h hold fun u v hn=> by
    rcases zwk hn with ⟨rfl,rfl⟩|⟨hu,hn⟩
    ·exact⟨w,w1,new⟩
    ·obtain⟨s,s1,s2⟩:=hP u v hn
     exact⟨s,s1,s2.set hu⟩
   refine⟨r1,fun s hs=> r2 s ?_⟩
   rcases hs with ⟨u,v,hs⟩|⟨_,rfl⟩
   ·by_cases hu:u=t
    ·subst hu
     obtain⟨s1,s2,_⟩:=hs
     rw[e2] at s2;cases s2
     have s1:A.nxt[u]?=some (some v):=s1
     rw[e1] at s1;cases s1
     exact .inr ⟨fun h=> (by cases h),rfl⟩
    ·exact .inl ⟨u,v,hs.set hu⟩
   ·exact .inl ⟨t,nx,new⟩
theorem ZBV:∀{fu:Nat} {at':Option Nat} {nx:Nat} {w:Zm0} {A A':Cl},ZDR fu at' nx w A=some A'→A'.cls=A.cls∧A'.mem=A.mem∧A'.use=A.use∧A'.tab=A.tab:=by
 intro fu
 induction fu with
 |zero=> intro _ _ _ _ _ h;cases h
 |succ fu ih=>
  intro at' nx w A A' h
  cases at' with
  |none=> obtain rfl:=Option.some.inj h;exact⟨rfl,rfl,rfl,rfl⟩
  |some t=>
   simp only[ZDR] at h
   split at h
   ·have q:=ih h;exact q
   ·cases h
def Rsn (m:Nat) (apps merges:List Key) (used:Nat→Bool) (L:List Zm0) (s:Zm0):Prop:=
 (∃i:Nat,s.2.2=(i:Int)∧used i=true∧(merges[i]?=some (s.1,s.2.1)∨merges[i]?=some (s.2.1,s.1)))∨
 (s.2.2= -1∧∃(j j':Nat) (p q:Key),s.1=m+j∧s.2.1=m+j'∧apps[j]?=some p∧apps[j']?=some q∧Lk L p.1 q.1∧Lk L p.2 q.2)
theorem Rsn.mono {L L':List Zm0} (h:∀s∈L,s∈L') {s:Zm0} (hr:Rsn m apps merges used L s):Rsn m apps merges used L' s:=by
 rcases hr with hr|⟨h1,j,j',p,q,h2,h3,h4,h5,h6,h7⟩
 ·exact .inl hr
 ·exact .inr ⟨h1,j,j',p,q,h2,h3,h4,h5,h6.mono h,h7.mono h⟩
theorem Rsn.swap {L:List Zm0} {s:Zm0} (hr:Rsn m apps merges used L s):Rsn m apps merges used L (s.2.1,s.1,s.2.2):=by
 rcases hr with ⟨i,h1,h2,h3⟩|⟨h1,j,j',p,q,h2,h3,h4,h5,h6,h7⟩
 ·exact .inl ⟨i,h1,h2,h3.symm⟩
 ·exact .inr ⟨h1,j',j,q,p,h3,h2,h5,h4,h6.symm,h7.symm⟩
def ZFI (m:Nat) (apps:List Key) (A:Cl):Prop:=∀(x y o:Nat),ZCL A.tab (x,y)=some o→∃(j:Nat) (q:Key),o=m+j∧apps[j]?=some q∧((∃i:Nat,A.cls[i]?=some x)→A.cls[q.1]?=some x)∧((∃i:Nat,A.cls[i]?=some y)→A.cls[q.2]?=some y)
structure Lg (m:Nat) (apps merges:List Key) (used:Nat→Bool) (A:Cl) (L:List Zm0) (p:List Zm0):Prop where
 cm:∀i k:Nat,A.cls[i]?=some k→∃l,A.mem[k]?=some l∧i∈l
 mc:∀(k:Nat) (l:List Nat) (i:Nat),A.mem[k]?=some l→i∈l→A.cls[i]?=some k
 tb:ZFI m apps A
 e1:∀t u,Nx A.nxt t u→∃s,s∈L∧Ed A t u s
 e2:∀s∈L,∃t u,Ed A t u s
 lk:∀a b k:Nat,A.cls[a]?=some k→A.cls[b]?=some k→Lk L a b
 rs:∀(j:Nat) (s:Zm0),L[j]?=some s→Rsn m apps merges used (L.take j) s
 pd:∀s∈p,Rsn m apps merges used L s
theorem ZAw {cls:List Nat} {t:Nat} {k:Key} (h:ZEt m apps cls t=some k):m≤t∧∃q,apps[t - m]?=some q∧cls[q.1]?=some k.1∧cls[q.2]?=some k.2:=by
 unfold ZEt at h
 split at h
 case isFalse=> cases h
 rename_i ht
 split at h
 case h_2=> cases h
 rename_i q hq
 split at h
 case h_2=> cases h
 rename_i x y hx hy
 cases h
 exact⟨ht,q,hq,hx,hy⟩
theorem Zup {L:List Zm0}:∀(l:List Nat) (A:Cl) (p:List Zm0) (A':Cl) (p':List Zm0),ZEu m apps l A p=some (A',p')→ZFI m apps A→(∀a b k:Nat,A.cls[a]?=some k→A.cls[b]?=some k→Lk L a b)→(∀s∈p,Rsn m apps merges used L s)→
 (∀s∈p',Rsn m apps merges used L s)∧ZFI m apps A'∧A'={A with tab:=A'.tab}
 |[],A,p,A',p',h,hT,hl,hp=> by cases h;exact⟨hp,hT,rfl⟩
 |t::l,A,p,A',p',h,hT,hl,hp=> by
  unfold ZEu at h
  split at h
  case h_1=> cases h
  rename_i k hk
  obtain⟨ht,q,hq,q1,q2⟩:=ZAw hk
  have et:m+(t - m)=t:=by omega
  have setT:ZFI m apps {A with tab:=ZCS A.tab k t}:=fun x y o ho=> by
   have ho:ZCL (ZCS A.tab k t) (x,y)=some o:=ho
   rw[zkq] at ho
   split at ho
   ·rename_i hh
    cases ho;subst hh
    exact⟨t - m,q,et.symm,hq,fun _=> q1,fun _=> q2⟩
   ·exact hT x y o ho
  have go:∀{A':Cl} {p':List Zm0},ZEu m apps l {A with tab:=ZCS A.tab k t} p=some (A',p')→(∀s∈p',Rsn m apps merges used L s)∧ZFI m apps A'∧A'={A with tab:=A'.tab}:=fun h=> by
   obtain⟨r1,r2,r3⟩:=Zup l _ p _ _ h setT hl hp
   exact⟨r1,r2,by rw[r3]⟩
  split at h
  ·rename_i o ho
   split at h
   case h_2=> cases h
   rename_i co ct hco hct
   split at h
   ·split at h
    case isFalse=> cases h
    obtain⟨k1,k2⟩:=k
    obtain⟨j,qo,rfl,hqo,g1,g2⟩:=hT k1 k2 o ho
    refine Zup l A _ _ _ h hT hl fun s hs=> ?_
    rcases List.mem_append.1 hs with hs|hs
    ·exact hp s hs
    ·rw[List.mem_singleton.1 hs]
     exact .inr ⟨rfl,t - m,j,q,qo,et.symm,rfl,hq,hqo,hl _ _ _ q1 (g1 ⟨_,q1⟩),hl _ _ _ q2 (g2 ⟨_,q2⟩)⟩
   ·exact go h
  ·exact go h
theorem Zuu {fu x y:Nat} {s:Zm0} {A A':Cl} {p p' L:List Zm0} (h:ZEX m apps fu x y s A p=some (A',p')) (hL:Lg m apps merges used A L (s::p)) (hx:A.cls[s.1]?=some x) (hy:A.cls[s.2.1]?=some y) (hxy:x≠y):Lg m apps merges used A' (L++[s]) p':=by
 unfold ZEX at h
 split at h
 case h_1=> cases h
 rename_i S1 hS1
 obtain⟨r1,r2,r3,r4⟩:=ZBV hS1
 split at h
 case h_2=> cases h
 rename_i mx my ux uy mx1 my1 ux1 uy1
 split at h
 case isFalse=> cases h
 split at h
 case h_2=> cases h
 rename_i cls' hcls
 rw[r1] at hcls
 rw[r2] at mx1 my1
 have sub:∀s'∈L,s'∈L++[s]:=fun s' hs=> List.mem_append_left _ hs
 obtain⟨g1,g2⟩:=ZBU (fun s'=> s'∈L++[s]) fu (some s.1) s.2.1 s A S1 hS1 (fun t ht=> by cases ht;exact⟨List.mem_append_right _ (List.mem_singleton.2 rfl),.inl ⟨rfl,rfl⟩⟩) fun t u hn=> by
  obtain⟨s',h1,h2⟩:=hL.e1 t u hn
  exact⟨s',sub _ h1,h2⟩
 have clt:∀(i k:Nat),A.cls[i]?=some k→i < A.cls.length:=fun i k h=> (List.getElem?_eq_some_iff.1 h).1
 have cl:∀i,i∈mx↔A.cls[i]?=some x:=fun i=> ⟨hL.mc _ _ _ mx1,fun h=> by
  obtain⟨l,h1,h2⟩:=hL.cm _ _ h
  rw[mx1] at h1;cases h1;exact h2⟩
 obtain⟨cls2,s1,s2,s3⟩:=zCZ (y:=y) mx A.cls fun i hi=> clt _ _ ((cl i).1 hi)
 rw[hcls] at s1;cases s1
 have s3x:∀i k:Nat,cls'[i]?=some k→(k=y∧A.cls[i]?=some x)∨(k≠x∧A.cls[i]?=some k):=fun i k h=> by
  rw[s3] at h
  split at h
  ·rename_i hi
   cases h
   exact .inl ⟨rfl,(cl i).1 hi⟩
  ·rename_i hi
   exact .inr ⟨fun hh=> hi ((cl i).2 (by rw[←hh];exact h)),h⟩
 have to':∀i k:Nat,A.cls[i]?=some k→cls'[i]?=some (if k=x then y else k):=fun i k h=> by
  rw[s3]
  by_cases hk:k=x
  ·rw[if_pos hk,if_pos ((cl i).2 (by rw[←hk];exact h))]
  ·rw[if_neg hk,if_neg (fun hi=> by have:=(cl i).1 hi;rw[h] at this;cases this;exact hk rfl),h]
 have hs:Lk (L++[s]) s.1 s.2.1:=.edge (List.mem_append_right _ (List.mem_singleton.2 rfl))
 have lk':∀a b k:Nat,cls'[a]?=some k→cls'[b]?=some k→Lk (L++[s]) a b:=fun a b k ha hb=> by
  have old:∀{a b k:Nat},A.cls[a]?=some k→A.cls[b]?=some k→Lk (L++[s]) a b:=fun h1 h2=> (hL.lk _ _ _ h1 h2).mono sub
  rcases s3x a k ha with ⟨rfl,ha⟩|⟨_,ha⟩ <;> rcases s3x b _ hb with ⟨hk,hb⟩|⟨_,hb⟩
  ·exact old ha hb
  ·exact((old ha hx).trans hs).trans (old hy hb)
  ·subst hk
   exact((old ha hy).trans hs.symm).trans (old hx hb)
  ·exact old ha hb
 have tb':ZFI m apps {S1 with cls:=cls',mem:=(S1.mem.set y (my++mx)).set x [],use:=(S1.use.set x []).set y (uy++ux)}:=fun a b o ho=> by
  have ho:ZCL S1.tab (a,b)=some o:=ho
  rw[r4] at ho
  obtain⟨j,q,h1,h2,h3,h4⟩:=hL.tb a b o ho
  have alive:∀a:Nat,(∃i:Nat,cls'[i]?=some a)→a≠x∧∃i:Nat,A.cls[i]?=some a:=fun a ⟨i,hi⟩=> by
   rcases s3x i a hi with ⟨rfl,_⟩|⟨h,hi⟩
   ·exact⟨fun hh=> hxy hh.symm,_,hy⟩
   ·exact⟨h,i,hi⟩
  have lift:∀(a c:Nat),((∃i:Nat,A.cls[i]?=some a)→A.cls[c]?=some a)→(∃i:Nat,cls'[i]?=some a)→cls'[c]?=some a:=fun a c hc hi=> by
   obtain⟨n1,n2⟩:=alive a hi
   have:=to' c a (hc n2)
   rw[if_neg n1] at this
   exact this
  exact⟨j,q,h1,h2,lift a q.1 h3,lift b q.2 h4⟩
 obtain⟨w1,w2,w3⟩:=Zup (merges:=merges) (used:=used) (L:=L++[s]) ux _ p A' p' h tb' lk' fun s' hs'=> (hL.pd s' (List.mem_cons_of_mem _ hs')).mono sub
 have hyl:y < A.mem.length:=(List.getElem?_eq_some_iff.1 my1).1
 have hxl:x < A.mem.length:=(List.getElem?_eq_some_iff.1 mx1).1
 have memx:((A.mem.set y (my++mx)).set x [])[x]?=some []:=List.getElem?_set_self (by rw[List.length_set];exact hxl)
 have memy:((A.mem.set y (my++mx)).set x [])[y]?=some (my++mx):=by rw[List.getElem?_set_ne hxy,List.getElem?_set_self hyl]
 have memo:∀k,k≠x→k≠y→((A.mem.set y (my++mx)).set x [])[k]?=A.mem[k]?:=fun k h1 h2=> by rw[List.getElem?_set_ne (Ne.symm h1),List.getElem?_set_ne (Ne.symm h2)]
 have ec:A'.cls=cls':=by rw[w3]
 have em:A'.mem=(A.mem.set y (my++mx)).set x []:=by rw[w3];show(S1.mem.set y _).set x _=_;rw[r2]
 have en:A'.nxt=S1.nxt:=by rw[w3]
 have ew:A'.why=S1.why:=by rw[w3]
 have ed:∀{t u s'},Ed S1 t u s'→Ed A' t u s':=fun h=> by unfold Ed at h⊢;rw[en,ew];exact h
 refine⟨fun i k hc=> ?_,fun k l i h hi=> ?_,w2,fun t u h=> ?_,fun s' hs'=> ?_,?_,fun j s' hj=> ?_,w1⟩
 ·rw[ec] at hc
  rw[em]
  rcases s3x i k hc with ⟨hk,hc⟩|⟨hk,hc⟩
  ·exact⟨my++mx,by rw[hk];exact memy,List.mem_append_right _ ((cl i).2 hc)⟩
  ·obtain⟨l,h1,h2⟩:=hL.cm i k hc
   by_cases hky:k=y
   ·subst hky
    rw[my1] at h1;cases h1
    exact⟨_,memy,List.mem_append_left _ h2⟩
   ·exact⟨l,by rw[memo k hk hky];exact h1,h2⟩
 ·rw[em] at h
  rw[ec]
  by_cases hk:k=x
  ·subst hk
   rw[memx] at h;cases h;cases hi
  ·by_cases hky:k=y
   ·subst hky
    rw[memy] at h;cases h
    rcases List.mem_append.1 hi with hi|hi
    ·have:=to' i k (hL.mc _ _ _ my1 hi)
     rw[if_neg hk] at this
     exact this
    ·have:=to' i x ((cl i).1 hi)
     rw[if_pos rfl] at this
     exact this
   ·rw[memo k hk hky] at h
    have:=to' i k (hL.mc _ _ _ h hi)
    rw[if_neg hk] at this
    exact this
 ·rw[en] at h
  obtain⟨s',h1,h2⟩:=g1 t u h
  exact⟨s',h1,ed h2⟩
 ·obtain⟨t,u,h⟩:=g2 s' (by
   rcases List.mem_append.1 hs' with hs'|hs'
   ·exact .inl (hL.e2 s' hs')
   ·exact .inr ⟨fun h=> (by cases h),List.mem_singleton.1 hs'⟩)
  exact⟨t,u,ed h⟩
 ·rw[ec];exact lk'
 ·by_cases hjl:j < L.length
  ·rw[List.getElem?_append_left hjl] at hj
   rw[List.take_append_of_le_length (by omega)]
   exact hL.rs j s' hj
  ·rw[List.getElem?_append_right (by omega)] at hj
   have:j - L.length=0:=by
    have:=(List.getElem?_eq_some_iff.1 hj).1
    simp only[List.length_cons,List.length_nil] at this
    omega
   rw[this] at hj
   cases hj
   have hjl':j=L.length:=by omega
   subst hjl'
   rw[List.take_left]
   exact hL.pd s List.mem_cons_self
theorem ZAC:∀(fu:Nat) (A:Cl) (p:List Zm0) (A':Cl) (L:List Zm0),ZEj m apps fu A p=some A'→Lg m apps merges used A L p→∃L',Lg m apps merges used A' L' []:=by
 intro fu
 induction fu with
 |zero=> intro _ _ _ _ h;cases h
 |succ fu ih=>
  intro A p A' L h hL
  cases p with
  |nil=> cases h;exact⟨L,hL⟩
  |cons s p=>
   unfold ZEj at h
   split at h
   case h_2=> cases h
   rename_i x y hx hy
   split at h
   ·exact ih A p A' L h ⟨hL.cm,hL.mc,hL.tb,hL.e1,hL.e2,hL.lk,hL.rs,fun s' hs'=> hL.pd s' (List.mem_cons_of_mem _ hs')⟩
   rename_i hxy
   split at h
   case h_2=> cases h
   split at h
   case h_2=> cases h
   rename_i A2 p2 hj
   split at hj
   ·exact ih A2 p2 A' _ h (Zuu (s:=(s.2.1,s.1,s.2.2)) hj ⟨hL.cm,hL.mc,hL.tb,hL.e1,hL.e2,hL.lk,hL.rs,fun s' hs'=> by
     rcases List.mem_cons.1 hs' with rfl|hs'
     ·exact(hL.pd s List.mem_cons_self).swap
     ·exact hL.pd s' (List.mem_cons_of_mem _ hs')⟩ hy hx (Ne.symm hxy))
   ·exact ih A2 p2 A' _ h (Zuu hj hL hx hy hxy)
theorem Lg.use {A:Cl} {L p:List Zm0} (hL:Lg m apps merges used A L p) (U:List (List Nat)):Lg m apps merges used {A with use:=U} L p:=⟨hL.cm,hL.mc,hL.tb,hL.e1,hL.e2,hL.lk,hL.rs,hL.pd⟩
theorem Lg.pend {A:Cl} {L p:List Zm0} (hL:Lg m apps merges used A L []) (h:∀s∈p,Rsn m apps merges used L s):Lg m apps merges used A L p:=⟨hL.cm,hL.mc,hL.tb,hL.e1,hL.e2,hL.lk,hL.rs,h⟩
theorem ZBX {fu t:Nat} {A A':Cl} {L:List Zm0} (h:ZFU m apps fu A t=some A') (hL:Lg m apps merges used A L []):∃L',Lg m apps merges used A' L' []:=by
 unfold ZFU at h
 split at h
 case h_1=> cases h
 rename_i k hk
 obtain⟨ht,q,hq,q1,q2⟩:=ZAw hk
 have et:m+(t - m)=t:=by omega
 obtain⟨k1,k2⟩:=k
 split at h
 ·rename_i o ho
  obtain⟨j,qo,rfl,hqo,g1,g2⟩:=hL.tb k1 k2 o ho
  exact ZAC fu A _ A' L h (hL.pend fun s hs=> by
   rw[List.mem_singleton.1 hs]
   exact .inr ⟨rfl,t - m,j,q,qo,et.symm,rfl,hq,hqo,hL.lk _ _ _ q1 (g1 ⟨_,q1⟩),hL.lk _ _ _ q2 (g2 ⟨_,q2⟩)⟩)
 ·cases h
  refine⟨L,hL.cm,hL.mc,fun x y o ho=> ?_,hL.e1,hL.e2,hL.lk,hL.rs,hL.pd⟩
  have ho:ZCL (ZCS A.tab (k1,k2) t) (x,y)=some o:=ho
  rw[zkq] at ho
  split at ho
  ·rename_i hh
   cases ho;cases hh
   exact⟨t - m,q,et.symm,hq,fun _=> q1,fun _=> q2⟩
  ·exact hL.tb x y o ho
theorem ZAH {fu i:Nat} {q:Key} {A A':Cl} {L:List Zm0} (h:ZFL m apps fu i q A=some A') (hL:Lg m apps merges used A L []):∃L',Lg m apps merges used A' L' []:=by
 unfold ZFL at h
 split at h
 case h_2=> cases h
 split at h
 case h_2=> cases h
 split at h
 case isFalse=> cases h
 split at h
 case h_2=> cases h
 split at h
 case isFalse=> cases h
 exact ZBX h (hL.use _)
theorem Zur {fu:Nat}:∀(l:List Key) (i:Nat) (A A':Cl) (L:List Zm0),ZEI m apps fu l i A=some A'→Lg m apps merges used A L []→∃L',Lg m apps merges used A' L' []
 |[],_,A,A',L,h,hL=> by cases h;exact⟨L,hL⟩
 |q::l,i,A,A',L,h,hL=> by
  unfold ZEI at h
  split at h
  case h_2=> cases h
  rename_i A1 h1
  obtain⟨L1,hL1⟩:=ZAH h1 hL
  exact Zur l (i+1) A1 A' L1 h hL1
theorem Zuo {fu:Nat}:∀(l:List Key) (i:Nat) (A A':Cl) (L:List Zm0),merges.drop i=l→ZEg m apps fu used l i A=some A'→Lg m apps merges used A L []→∃L',Lg m apps merges used A' L' []
 |[],_,A,A',L,_,h,hL=> by cases h;exact⟨L,hL⟩
 |q::l,i,A,A',L,hd,h,hL=> by
  have hd':merges.drop (i+1)=l:=by rw[←List.drop_drop,hd];rfl
  have hq:merges[i]?=some q:=by rw[←List.head?_drop,hd];rfl
  unfold ZEg at h
  split at h
  ·rename_i hu
   split at h
   case h_2=> cases h
   rename_i A1 h1
   obtain⟨L1,hL1⟩:=ZAC fu A _ A1 L h1 (hL.pend fun s hs=> by
    rw[List.mem_singleton.1 hs]
    exact .inl ⟨i,rfl,hu,.inl hq⟩)
   exact Zuo l (i+1) A1 A' L1 hd' h hL1
  ·exact Zuo l (i+1) A A' L hd' h hL
theorem ZB2 {fu:Nat} {A:Cl} (h:ZEF apps merges m fu used=some A):∃L,Lg m apps merges used A L []:=by
 unfold ZEF at h
 split at h
 case h_2=> cases h
 rename_i A1 h1
 have hc:∀i k:Nat,(List.range (m+apps.length))[i]?=some k→i=k∧k < m+apps.length:=fun i k h=> by
  obtain⟨h1,h2⟩:=List.getElem?_eq_some_iff.1 h
  rw[List.getElem_range] at h2
  rw[List.length_range] at h1
  omega
 have nx0:∀t u,¬Nx (cl0 (m+apps.length)).nxt t u:=fun t u h=> by
  have h:(List.replicate (m+apps.length) (none:Option Nat))[t]?=some (some u):=h
  rw[List.getElem?_replicate] at h
  split at h <;> cases h
 have h0:Lg m apps merges used (cl0 (m+apps.length)) [] []:=by
  refine⟨fun i k h=> ?_,fun k l i h hi=> ?_,fun x y o h=> (by cases h),fun t u h=> absurd h (nx0 t u),fun s hs=> (by cases hs),fun a b k h1 h2=> ?_,fun j s h=> (by cases h),fun s hs=> (by cases hs)⟩
  ·obtain⟨rfl,h1⟩:=hc i k h
   exact⟨[i],by show((List.range _).map _)[i]?=_;rw[List.getElem?_map,show(List.range (m+apps.length))[i]?=some i from h];rfl,List.mem_singleton.2 rfl⟩
  ·have h:((List.range (m+apps.length)).map fun i=> [i])[k]?=some l:=h
   rw[List.getElem?_map] at h
   cases hr:(List.range (m+apps.length))[k]? with
   |none=> rw[hr] at h;cases h
   |some x=>
    rw[hr] at h;cases h
    obtain⟨rfl,_⟩:=hc _ _ hr
    rw[List.mem_singleton.1 hi];exact hr
  ·obtain⟨rfl,_⟩:=hc a k h1
   obtain⟨rfl,_⟩:=hc b _ h2
   exact .refl _
 obtain⟨L1,hL1⟩:=Zur apps 0 _ A1 [] h1 h0
 exact Zuo merges 0 A1 A L1 rfl h hL1
end
section
variable {m:Nat} {apps merges:List Key} {used:Nat→Bool} {A:Cl} {L:List Zm0}
def ZCs (l:List Nat) (t:Nat):List Nat:=if t∈l then l else l++[t]
theorem Zmy {l:List Nat} {t x:Nat}:x∈ZCs l t↔x∈l∨x=t:=by
 unfold ZCs
 split
 ·rename_i h
  exact⟨.inl,fun hh=> by rcases hh with hh|rfl <;> assumption⟩
 ·rw[List.mem_append,List.mem_singleton]
def upF:Nat→List (Option Nat)→Option Nat→List Nat→Option (List Nat)
 |0,_,_,_=> none
 |_+1,_,none,acc=> some acc
 |f+1,nxt,some t,acc=> match nxt[t]? with
  |some old=> upF f nxt old (ZCs acc t)
  |none=> none
def ZFP:Nat→List (Option Nat)→List Nat→Nat→Option Nat
 |0,_,_,_=> none
 |f+1,nxt,up,b=> if b∈up then some b else match nxt[b]? with
  |some (some u)=> ZFP f nxt up u
  |_=> none
def ZEz (m:Nat) (apps:List Key) (A:Cl) (ex:Nat→Nat→List Nat→List Nat→Option (List Nat×List Nat)) (c:Nat):Nat→Nat→List Nat→List Nat→Option (List Nat×List Nat)
 |0,_,_,_=> none
 |f+1,t,D,M=> if t=c then some (D,M) else match A.nxt[t]? with
  |some (some u)=> if t∈D then ZEz m apps A ex c f u D M else match A.why[t]? with
   |some s=> if 0≤s.2.2 then ZEz m apps A ex c f u (D++[t]) (ZCs M s.2.2.toNat) else if m≤s.1∧m≤s.2.1 then match apps[s.1 - m]?,apps[s.2.1 - m]? with
    |some p,some q=> match ex p.1 q.1 (D++[t]) M with
     |some (D1,M1)=> match ex p.2 q.2 D1 M1 with
      |some (D2,M2)=> ZEz m apps A ex c f u D2 M2
      |none=> none
     |none=> none
    |_,_=> none
    else none
   |none=> none
  |_=> none
def ZFv (m:Nat) (apps:List Key) (A:Cl):Nat→Nat→Nat→List Nat→List Nat→Option (List Nat×List Nat)
 |0,_,_,_,_=> none
 |k+1,a,b,D,M=> match upF 1000 A.nxt (some a) [] with
  |some up=> match ZFP 1000 A.nxt up b with
   |some c=> match ZEz m apps A (ZFv m apps A k) c 1000 a D M with
    |some (D1,M1)=> ZEz m apps A (ZFv m apps A k) c 1000 b D1 M1
    |none=> none
   |none=> none
  |none=> none
inductive UpP (l:List (Option Nat)) (P:Nat→Prop):Nat→Nat→Prop
 |refl (a:Nat):UpP l P a a
 |step {t u v:Nat}:P t→Nx l t u→UpP l P u v→UpP l P t v
theorem UpP.way {l:List (Option Nat)} {P:Nat→Prop} {a b:Nat} (h:UpP l P a b):Way l a b:=by
 induction h with
 |refl a=> exact .refl a
 |step _ h _ ih=> exact .step h ih
theorem UpP.mono {l:List (Option Nat)} {P Q:Nat→Prop} (hPQ:∀x,P x→Q x) {a b:Nat} (h:UpP l P a b):UpP l Q a b:=by
 induction h with
 |refl a=> exact .refl a
 |step h1 h _ ih=> exact .step (hPQ _ h1) h ih
theorem UpP.trans {l:List (Option Nat)} {P:Nat→Prop} {a b c:Nat} (h:UpP l P a b) (h':UpP l P b c):UpP l P a c:=by
 induction h with
 |refl a=> exact h'
 |step h1 h _ ih=> exact .step h1 h (ih h')
theorem Way.trans {l:List (Option Nat)} {a b c:Nat} (h:Way l a b) (h':Way l b c):Way l a c:=by
 induction h with
 |refl a=> exact h'
 |step h _ ih=> exact .step h (ih h')
theorem Nx.det {l:List (Option Nat)} {a b c:Nat} (h:Nx l a b) (h':Nx l a c):b=c:=by
 unfold Nx at h h'
 rw[h] at h';cases h';rfl
theorem UpP.comp {l:List (Option Nat)} {P Q:Nat→Prop} {a b:Nat} (h:UpP l P a b):∀{c:Nat},UpP l Q a c→UpP l P c b∨UpP l Q b c:=by
 induction h with
 |refl a=> intro c h';exact .inr h'
 |step h1 h hr ih=>
  intro c h'
  cases h' with
  |refl=> exact .inl (.step h1 h hr)
  |step g1 g gr=> rw[h.det g] at ih;exact ih gr
theorem UpP.part {l:List (Option Nat)} {P Q:Nat→Prop} {a b:Nat} (h:UpP l P a b):∀{c:Nat},UpP l Q a c→Way l c b→(Way l b c→b=c)→UpP l P a c:=by
 induction h with
 |refl a=> intro c h' hw hb;rw[hb h'.way];exact .refl _
 |step h1 h hr ih=>
  intro c h' hw hb
  cases h' with
  |refl=> exact .refl _
  |step g1 g gr=> rw[←h.det g] at gr;exact .step h1 h (ih gr hw hb)
theorem Way.anti {l:List (Option Nat)} {δ:Nat→Nat} (hf:ZEn l δ) {a b:Nat} (h:Way l a b) (h':Way l b a):a=b:=by
 cases h with
 |refl=> rfl
 |step h1 h2=>
  have:=hf _ _ h1
  have:=h2.le hf
  have:=h'.le hf
  omega
theorem ZCg {l:List (Option Nat)} {a b:Nat} (h:Way l a b):UpP l (fun _=> True) a b:=by
 induction h with
 |refl a=> exact .refl a
 |step h _ ih=> exact .step trivial h ih
theorem ZAx (hL:Lg m apps merges used A L []) {K:List Zm0} (hK:∀s∈K,s∈L) {a b:Nat} (h:Lk K a b):∃r,UpP A.nxt (fun x=> ∃s,A.why[x]?=some s∧s∈K) a r∧UpP A.nxt (fun x=> ∃s,A.why[x]?=some s∧s∈K) b r:=by
 induction h with
 |refl a=> exact⟨a,.refl a,.refl a⟩
 |@edge s hs=>
  obtain⟨t,u,h1,h2,h3⟩:=hL.e2 s (hK s hs)
  have st:UpP A.nxt (fun x=> ∃s,A.why[x]?=some s∧s∈K) t u:=.step ⟨s,h2,hs⟩ h1 (.refl u)
  rcases h3 with ⟨rfl,rfl⟩|⟨rfl,rfl⟩
  ·exact⟨_,st,.refl _⟩
  ·exact⟨_,.refl _,st⟩
 |symm _ ih=> obtain⟨r,h1,h2⟩:=ih;exact⟨r,h2,h1⟩
 |trans _ _ i1 i2=>
  obtain⟨r,h1,h2⟩:=i1
  obtain⟨r',h3,h4⟩:=i2
  rcases h2.comp h3 with h|h
  ·exact⟨r,h1,h4.trans h⟩
  ·exact⟨r',h1.trans h,h4⟩
theorem ZBW (hL:Lg m apps merges used A L []) {δ:Nat→Nat} (hf:ZEn A.nxt δ) {K:List Zm0} (hK:∀s∈K,s∈L) {a b c:Nat} (h:Lk K a b) (hac:Way A.nxt a c) (hbc:UpP A.nxt (fun x=> ¬Way A.nxt a x) b c):
 UpP A.nxt (fun x=> ∃s,A.why[x]?=some s∧s∈K) a c∧UpP A.nxt (fun x=> ∃s,A.why[x]?=some s∧s∈K) b c:=by
 obtain⟨r,h1,h2⟩:=ZAx hL hK h
 have hcr:Way A.nxt c r:=by
  rcases hbc.comp h2 with h|h
  ·
   cases h with
   |refl=> exact .refl _
   |step g _ _=> exact absurd h1.way g
  ·exact h.way
 have anti:Way A.nxt r c→r=c:=fun h=> Way.anti hf h hcr
 exact⟨h1.part (ZCg hac) hcr anti,h2.part hbc hcr anti⟩
theorem ZCd {n:Nat} {l:List (Option Nat)} {δ:Nat→Nat} (hf:ZEn l δ) (hl:l.length=n) (hb:∀t u,Nx l t u→u < n):∀(f t:Nat) (acc:List Nat),t < n→rank δ n t+1 < f→∃acc',upF f l (some t) acc=some acc'∧∀x,x∈acc'↔x∈acc∨Way l t x:=by
 intro f
 induction f with
 |zero=> intro t acc _ h;omega
 |succ f ih=>
  intro t acc ht hr
  have e:l[t]?=some l[t]:=List.getElem?_eq_getElem (by omega)
  generalize l[t]=old at e
  simp only[upF,e]
  cases old with
  |none=>
   cases f with
   |zero=> omega
   |succ f=>
    refine⟨ZCs acc t,rfl,fun x=> ?_⟩
    rw[Zmy]
    refine⟨fun h=> h.imp id fun h=> by rw[h];exact .refl _,fun h=> h.imp id fun h=> ?_⟩
    cases h with
    |refl=> rfl
    |step h _=> unfold Nx at h;rw[e] at h;cases h
  |some u=>
   have hlt:=zys (n:=n) (hb t u e) (hf t u e)
   obtain⟨acc',h1,h2⟩:=ih u (ZCs acc t) (hb t u e) (by omega)
   refine⟨acc',h1,fun x=> ?_⟩
   rw[h2,Zmy,or_assoc]
   refine or_congr Iff.rfl ⟨fun h=> ?_,fun h=> ?_⟩
   ·rcases h with rfl|h
    ·exact .refl _
    ·exact .step e h
   ·cases h with
    |refl=> exact .inl rfl
    |step h hw=> rw[Nx.det h e] at hw;exact .inr hw
theorem ZAI {n:Nat} {l:List (Option Nat)} {δ:Nat→Nat} (hf:ZEn l δ) (hb:∀t u,Nx l t u→u < n) {up:List Nat}:∀(f b:Nat),rank δ n b < f→(∃x,x∈up∧Way l b x)→∃c,ZFP f l up b=some c∧c∈up∧UpP l (fun x=> x∉up) b c:=by
 intro f
 induction f with
 |zero=> intro b h;omega
 |succ f ih=>
  intro b hr ⟨x,hx,hw⟩
  unfold ZFP
  by_cases hb':b∈up
  ·rw[if_pos hb'];exact⟨b,rfl,hb',.refl _⟩
  ·rw[if_neg hb']
   cases hw with
   |refl=> exact absurd hx hb'
   |@step _ u _ h hw=>
    have h':l[b]?=some (some u):=h
    simp only[h']
    have hlt:=zys (n:=n) (hb b u h) (hf b u h)
    obtain⟨c,h1,h2,h3⟩:=ih u (by omega) ⟨x,hx,hw⟩
    exact⟨c,h1,h2,.step hb' h h3⟩
def PC (A:Cl) (D:List Nat) (a b:Nat):Prop:=∃c,Way A.nxt a c∧UpP A.nxt (fun x=> ¬Way A.nxt a x) b c∧UpP A.nxt (fun x=> x∈D) a c∧UpP A.nxt (fun x=> x∈D) b c
theorem PC.mono {D D':List Nat} (h:∀x∈D,x∈D') {a b:Nat} (hp:PC A D a b):PC A D' a b:=by
 obtain⟨c,h1,h2,h3,h4⟩:=hp
 exact⟨c,h1,h2,h3.mono h,h4.mono h⟩
def Good (m:Nat) (apps:List Key) (A:Cl) (D M:List Nat) (t:Nat):Prop:=∃u s,Ed A t u s∧((∃i:Nat,s.2.2=(i:Int)∧i∈M)∨
 (s.2.2= -1∧∃(j j':Nat) (p q:Key),s.1=m+j∧s.2.1=m+j'∧apps[j]?=some p∧apps[j']?=some q∧PC A D p.1 q.1∧PC A D p.2 q.2))
theorem Good.mono {D D' M M':List Nat} (hD:∀x∈D,x∈D') (hM:∀x∈M,x∈M') {t:Nat} (h:Good m apps A D M t):Good m apps A D' M' t:=by
 obtain⟨u,s,h1,h2⟩:=h
 refine⟨u,s,h1,?_⟩
 rcases h2 with ⟨i,h2,h3⟩|⟨h2,j,j',p,q,h3,h4,h5,h6,h7,h8⟩
 ·exact .inl ⟨i,h2,hM _ h3⟩
 ·exact .inr ⟨h2,j,j',p,q,h3,h4,h5,h6,h7.mono hD,h8.mono hD⟩
structure Res (m:Nat) (apps:List Key) (A:Cl) (U:Nat→Prop) (n:Nat) (D M D' M':List Nat):Prop where
 nd:D'.Nodup
 lt:∀x∈D',x < n
 sub:∀x∈D,x∈D'
 len:D.length≤D'.length
 msub:∀x∈M,x∈M'
 mu:∀x∈M',U x
 good:∀t∈D',t∉D→Good m apps A D' M' t
theorem Res.trans {U:Nat→Prop} {n:Nat} {D M D1 M1 D2 M2:List Nat} (h:Res m apps A U n D M D1 M1) (h':Res m apps A U n D1 M1 D2 M2):Res m apps A U n D M D2 M2:=
 ⟨h'.nd,h'.lt,fun x hx=> h'.sub x (h.sub x hx),Nat.le_trans h.len h'.len,fun x hx=> h'.msub x (h.msub x hx),h'.mu,fun t ht hn=> by
  by_cases h1:t∈D1
  ·exact(h.good t h1 hn).mono h'.sub h'.msub
  ·exact h'.good t ht h1⟩
def ZHN (m:Nat) (apps:List Key) (A:Cl) (L:List Zm0) (U:Nat→Prop) (n k:Nat) (ex:Nat→Nat→List Nat→List Nat→Option (List Nat×List Nat)):Prop:=
 ∀(a b:Nat) (D M:List Nat),a < n→b < n→Lk L a b→D.Nodup→(∀x∈D,x < n)→(∀x∈M,U x)→n < D.length+k→∃D' M',ex a b D M=some (D',M')∧Res m apps A U n D M D' M'∧PC A D' a b
def ZFK (merges:List Key) (used:Nat→Bool) (i:Nat):Prop:=used i=true∧i < merges.length
theorem ZAG (hB:Base m apps.length apps (fun _ _=> True) A) (hL:Lg m apps merges used A L []) {δ:Nat→Nat} (hf:ZEn A.nxt δ) {ex:Nat→Nat→List Nat→List Nat→Option (List Nat×List Nat)} {k c:Nat} (hex:ZHN m apps A L (ZFK merges used) (m+apps.length) k ex):
 ∀(f t:Nat) (D M:List Nat),t < m+apps.length→rank δ (m+apps.length) t < f→Way A.nxt t c→D.Nodup→(∀x∈D,x < m+apps.length)→(∀x∈M,ZFK merges used x)→m+apps.length < D.length+k+1→
 ∃D' M',ZEz m apps A ex c f t D M=some (D',M')∧Res m apps A (ZFK merges used) (m+apps.length) D M D' M'∧UpP A.nxt (fun x=> x∈D') t c:=by
 intro f
 induction f with
 |zero=> intro t D M _ h;omega
 |succ f ih=>
  intro t D M ht hr hw hnd hlt hmu hk
  unfold ZEz
  by_cases htc:t=c
  ·subst htc
   rw[if_pos rfl]
   exact⟨D,M,rfl,⟨hnd,hlt,fun _ h=> h,Nat.le_refl _,fun _ h=> h,hmu,fun t h1 h2=> absurd h1 h2⟩,.refl _⟩
  rw[if_neg htc]
  cases hw with
  |refl=> exact absurd rfl htc
  |@step _ u _ hn hw=>
   have hn':A.nxt[t]?=some (some u):=hn
   simp only[hn']
   have hun:=(hB.fb t u hn).1
   have hlt':=zys (n:=m+apps.length) hun (hf t u hn)
   by_cases htD:t∈D
   ·rw[if_pos htD]
    obtain⟨D',M',h1,h2,h3⟩:=ih u D M hun (by omega) hw hnd hlt hmu hk
    exact⟨D',M',h1,h2,.step (h2.sub t htD) hn h3⟩
   ·rw[if_neg htD]
    obtain⟨s,hs1,hs2⟩:=hL.e1 t u hn
    have hwhy:=hs2.2.1
    simp only[hwhy]
    obtain⟨j,hj⟩:=List.mem_iff_getElem?.1 hs1
    have hnd1:(D++[t]).Nodup:=by
     rw[List.nodup_append]
     exact⟨hnd,List.nodup_cons.2 ⟨by simp,.nil⟩,fun x hx y hy=> by rw[List.mem_singleton.1 hy];exact fun hh=> htD (hh ▸ hx)⟩
    have hlt1:∀x∈D++[t],x < m+apps.length:=fun x hx=> by
     rcases List.mem_append.1 hx with hx|hx
     ·exact hlt x hx
     ·rw[List.mem_singleton.1 hx];exact ht
    have hlen1:(D++[t]).length=D.length+1:=by simp
    have inD:∀x∈D,x∈D++[t]:=fun x hx=> List.mem_append_left _ hx
    have tin:t∈D++[t]:=List.mem_append_right _ (List.mem_singleton.2 rfl)
    rcases hL.rs j s hj with ⟨i,h1,h2,h3⟩|⟨h1,j1,j2,p,q,h2,h3,h4,h5,h6,h7⟩
    ·rw[if_pos (by omega)]
     have ei:s.2.2.toNat=i:=by omega
     have him:i < merges.length:=by
      rcases h3 with h3|h3 <;> exact(List.getElem?_eq_some_iff.1 h3).1
     have hmu1:∀x∈ZCs M s.2.2.toNat,ZFK merges used x:=fun x hx=> by
      rcases Zmy.1 hx with hx|hx
      ·exact hmu x hx
      ·rw[hx,ei];exact⟨h2,him⟩
     obtain⟨D',M',g1,g2,g3⟩:=ih u (D++[t]) (ZCs M s.2.2.toNat) hun (by omega) hw hnd1 hlt1 hmu1 (by omega)
     refine⟨D',M',g1,⟨g2.nd,g2.lt,fun x hx=> g2.sub x (inD x hx),by have:=g2.len;omega,fun x hx=> g2.msub x (Zmy.2 (.inl hx)),g2.mu,fun x hx hxD=> ?_⟩,.step (g2.sub t tin) hn g3⟩
     by_cases hxt:x=t
     ·subst hxt
      exact⟨u,s,hs2,.inl ⟨i,h1,g2.msub i (Zmy.2 (.inr ei.symm))⟩⟩
     ·exact g2.good x hx fun hh=> by
       rcases List.mem_append.1 hh with hh|hh
       ·exact hxD hh
       ·exact hxt (List.mem_singleton.1 hh)
    ·rw[if_neg (by omega),if_pos (by omega)]
     have k1:s.1 - m=j1:=by omega
     have k2:s.2.1 - m=j2:=by omega
     simp only[k1,k2,h4,h5]
     have b1:=hB.ha j1 p h4
     have b2:=hB.ha j2 q h5
     have l1:=(List.getElem?_eq_some_iff.1 h4).1
     have l2:=(List.getElem?_eq_some_iff.1 h5).1
     have sub:∀x∈L.take j,x∈L:=fun x hx=> List.mem_of_mem_take hx
     obtain⟨D1,M1,a1,a2,a3⟩:=hex p.1 q.1 (D++[t]) M (by omega) (by omega) (h6.mono sub) hnd1 hlt1 hmu (by omega)
     have len1:=a2.len
     obtain⟨D2,M2,c1,c2,c3⟩:=hex p.2 q.2 D1 M1 (by omega) (by omega) (h7.mono sub) a2.nd a2.lt a2.mu (by omega)
     have len2:=c2.len
     simp only[a1,c1]
     obtain⟨D',M',g1,g2,g3⟩:=ih u D2 M2 hun (by omega) hw c2.nd c2.lt c2.mu (by omega)
     have T:=(a2.trans c2).trans g2
     refine⟨D',M',g1,⟨g2.nd,g2.lt,fun x hx=> T.sub x (inD x hx),by have:=T.len;omega,T.msub,g2.mu,fun x hx hxD=> ?_⟩,.step (T.sub t tin) hn g3⟩
     by_cases hxt:x=t
     ·subst hxt
      exact⟨u,s,hs2,.inr ⟨h1,j1,j2,p,q,h2,h3,h4,h5,a3.mono fun x hx=> g2.sub x (c2.sub x hx),c3.mono g2.sub⟩⟩
     ·exact T.good x hx fun hh=> by
       rcases List.mem_append.1 hh with hh|hh
       ·exact hxD hh
       ·exact hxt (List.mem_singleton.1 hh)
theorem ZAR (hn:m+apps.length < 900) (hB:Base m apps.length apps (fun _ _=> True) A) (hL:Lg m apps merges used A L []):∀k,ZHN m apps A L (ZFK merges used) (m+apps.length) k (ZFv m apps A k):=by
 obtain⟨δ,hf⟩:=hB.fo
 have hb:∀t u,Nx A.nxt t u→u < m+apps.length:=fun t u h=> (hB.fb t u h).1
 intro k
 induction k with
 |zero=>
  intro a b D M _ _ _ hnd hlt _ hk
  have:=zCA hnd hlt
  omega
 |succ k ih=>
  intro a b D M ha hb' hlk hnd hlt hmu hk
  unfold ZFv
  have r1:=zCN δ (m+apps.length) a
  have r2:=zCN δ (m+apps.length) b
  obtain⟨up,h1,h2⟩:=ZCd hf hB.ln hb 1000 a [] ha (by omega)
  obtain⟨r,g1,g2⟩:=ZAx hL (fun _ h=> h) hlk
  obtain⟨c,h3,h4,h5⟩:=ZAI (up:=up) hf hb 1000 b (by omega) ⟨r,(h2 r).2 (.inr g1.way),g2.way⟩
  simp only[h1,h3]
  have hac:Way A.nxt a c:=by
   rcases(h2 c).1 h4 with h|h
   ·cases h
   ·exact h
  have hbc:UpP A.nxt (fun x=> ¬Way A.nxt a x) b c:=h5.mono fun x hx hw=> hx ((h2 x).2 (.inr hw))
  obtain⟨D1,M1,a1,a2,a3⟩:=ZAG hB hL hf ih 1000 a D M ha (by omega) hac hnd hlt hmu (by omega)
  have len1:=a2.len
  obtain⟨D2,M2,c1,c2,c3⟩:=ZAG hB hL hf ih 1000 b D1 M1 hb' (by omega) hbc.way a2.nd a2.lt a2.mu (by omega)
  simp only[a1,c1]
  exact⟨D2,M2,rfl,a2.trans c2,c,hac,hbc,a3.mono c2.sub,c3⟩
theorem ZAZ {Rel:Nat→Nat→Prop} (hR:Cong m apps Rel) (hL:Lg m apps merges used A L []) {δ:Nat→Nat} (hf:ZEn A.nxt δ) {D M:List Nat} (hG:∀t∈D,Good m apps A D M t) (hM:∀(i:Nat) (p:Key),i∈M→merges[i]?=some p→Rel p.1 p.2):
 ∀(j t u:Nat) (s:Zm0),t∈D→Ed A t u s→L[j]?=some s→Rel t u:=by
 intro j
 induction j using Nat.strongRecOn with
 |_ j ih=>
  intro t u s ht hs hj
  have path:∀{a c:Nat},UpP A.nxt (fun x=> ∃s,A.why[x]?=some s∧s∈L.take j) a c→UpP A.nxt (fun x=> x∈D) a c→Rel a c:=by
   intro a c h
   induction h with
   |refl a=> intro _;exact hR.refl _
   |@step x y c h1 h2 h3 ih2=>
    intro h'
    cases h' with
    |refl=>
     have:=h3.way.le hf
     have:=hf _ _ h2
     omega
    |step g1 g2 g3=>
     rw[←h2.det g2] at g3
     obtain⟨s',q1,q2⟩:=h1
     obtain⟨s'',q3,q4⟩:=hL.e1 x y h2
     have e:=q4.2.1
     rw[q1] at e;cases e
     obtain⟨j',hj'⟩:=List.mem_iff_getElem?.1 q2
     have hlt:j' < j:=by
      have:=(List.getElem?_eq_some_iff.1 hj').1
      rw[List.length_take] at this
      omega
     rw[List.getElem?_take_of_lt hlt] at hj'
     exact hR.trans (ih j' hlt x y s' g1 q4 hj') (ih2 g3)
  have both:∀{a b:Nat},Lk (L.take j) a b→PC A D a b→Rel a b:=fun h ⟨c,h1,h2,h3,h4⟩=> by
   obtain⟨w1,w2⟩:=ZBW hL hf (fun x hx=> List.mem_of_mem_take hx) h h1 h2
   exact hR.trans (path w1 h3) (hR.symm (path w2 h4))
  have main:Rel s.1 s.2.1:=by
   obtain⟨u',s',g1,g2⟩:=hG t ht
   have e:=g1.2.1
   rw[hs.2.1] at e;cases e
   rcases hL.rs j s hj with ⟨i,h1,h2,h3⟩|⟨h1,j1,j2,p,q,h2,h3,h4,h5,h6,h7⟩
   ·rcases g2 with ⟨i',g3,g4⟩|⟨g3,_⟩
    ·have:i'=i:=by omega
     subst this
     rcases h3 with h3|h3
     ·exact hM i' _ g4 h3
     ·exact hR.symm (hM i' _ g4 h3)
    ·omega
   ·rcases g2 with ⟨i',g3,g4⟩|⟨g3,k1,k2,p',q',g4,g5,g6,g7,g8,g9⟩
    ·omega
    ·have e1:k1=j1:=by omega
     have e2:k2=j2:=by omega
     subst e1;subst e2
     rw[h4] at g6;cases g6
     rw[h5] at g7;cases g7
     rw[h2,h3]
     exact hR.app h4 h5 (both h6 g8) (both h7 g9)
  rcases hs.2.2 with ⟨rfl,rfl⟩|⟨rfl,rfl⟩
  ·exact main
  ·exact hR.symm main
theorem ZAS (hn:m+apps.length < 900) (hB:Base m apps.length apps (fun _ _=> True) A) (hL:Lg m apps merges used A L []) {a b k:Nat} (ha:A.cls[a]?=some k) (hb:A.cls[b]?=some k):
 ∃D M,ZFv m apps A 1000 a b [] []=some (D,M)∧(∀i∈M,ZFK merges used i)∧∀Rel,Cong m apps Rel→(∀(i:Nat) (p:Key),i∈M→merges[i]?=some p→Rel p.1 p.2)→Rel a b:=by
 have lc:=hB.lc
 have hlk:=hL.lk a b k ha hb
 obtain⟨D,M,h1,h2,h3⟩:=ZAR hn hB hL 1000 a b [] [] (by rw[←lc];exact(List.getElem?_eq_some_iff.1 ha).1) (by rw[←lc];exact(List.getElem?_eq_some_iff.1 hb).1) hlk .nil (fun x hx=> by cases hx) (fun x hx=> by cases hx) (by simp only[List.length_nil];omega)
 refine⟨D,M,h1,h2.mu,fun Rel hR hM=> ?_⟩
 obtain⟨δ,hf⟩:=hB.fo
 have hG:∀t∈D,Good m apps A D M t:=fun t ht=> h2.good t ht (by simp)
 obtain⟨c,_,_,c3,c4⟩:=h3
 have path:∀{a c:Nat},UpP A.nxt (fun x=> x∈D) a c→Rel a c:=by
  intro a c h
  induction h with
  |refl a=> exact hR.refl _
  |@step x y c g1 g2 _ ih=>
   obtain⟨s,q1,q2⟩:=hL.e1 x y g2
   obtain⟨j,hj⟩:=List.mem_iff_getElem?.1 q1
   exact hR.trans (ZAZ hR hL hf hG hM j x y s g1 q2 hj) ih
 exact hR.trans (path c3) (hR.symm (path c4))
end
section
variable {m:Nat} {apps merges:List Key} {used:Nat→Bool}
def ZEc (cls:List Nat) (a b:Nat):Option (List Nat×Bool):=match cls[a]?,cls[b]? with
 |some x,some y=> if x=y then some (cls,false) else some (cls.map fun c=> if c=max x y then min x y else c,true)
 |_,_=> none
def ZFi (used:Nat→Bool):List Key→Nat→List Nat→Option (List Nat)
 |[],_,cls=> some cls
 |p::l,i,cls=> if used i=true then match ZEc cls p.1 p.2 with
   |some (c,_)=> ZFi used l (i+1) c
   |none=> none
  else ZFi used l (i+1) cls
def ZEv (m i:Nat) (p:Key):List Key→Nat→List Nat→Bool→Option (List Nat×Bool)
 |[],_,cls,more=> some (cls,more)
 |q::l,k,cls,more=> match cls[p.1]?,cls[q.1]? with
  |some a,some b=> match cls[p.2]?,cls[q.2]? with
   |some c,some d=> if a=b∧c=d then match ZEc cls (m+i) (m+k) with
    |some (cls',b)=> ZEv m i p l (k+1) cls' (b||more)
    |none=> none
    else ZEv m i p l (k+1) cls more
   |_,_=> none
  |_,_=> none
def ZFC (m:Nat) (apps:List Key):List Key→Nat→List Nat→Bool→Option (List Nat×Bool)
 |[],_,cls,more=> some (cls,more)
 |p::l,i,cls,more=> match ZEv m i p (apps.take i) 0 cls more with
  |some (c,b)=> ZFC m apps l (i+1) c b
  |none=> none
def ZFY (m:Nat) (apps:List Key):Nat→List Nat→Option (List Nat)
 |0,_=> none
 |f+1,cls=> match ZFC m apps apps 0 cls false with
  |some (c,b)=> if b=true then ZFY m apps f c else some c
  |none=> none
def ZGq (m:Nat) (apps merges:List Key) (used:Nat→Bool):Option (List Nat):=match ZFi used merges 0 (List.range (m+apps.length)) with
 |some c=> ZFY m apps 100 c
 |none=> none
structure RI (n:Nat) (Rel:Nat→Nat→Prop) (cls:List Nat):Prop where
 len:cls.length=n
 rep:∀i r:Nat,cls[i]?=some r→r≤i∧cls[r]?=some r
 rel:∀i j k:Nat,cls[i]?=some k→cls[j]?=some k→Rel i j
def Cor (cls cls':List Nat):Prop:=∀i j k:Nat,cls[i]?=some k→cls[j]?=some k→∃k':Nat,cls'[i]?=some k'∧cls'[j]?=some k'
theorem Cor.refl (cls:List Nat):Cor cls cls:=fun _ _ k h1 h2=> ⟨k,h1,h2⟩
theorem Cor.trans {c1 c2 c3:List Nat} (h:Cor c1 c2) (h':Cor c2 c3):Cor c1 c3:=fun i j k h1 h2=> by
 obtain⟨k',g1,g2⟩:=h i j k h1 h2
 exact h' i j k' g1 g2
theorem zEw {Rel:Nat→Nat→Prop} (hR:Cong m apps Rel) {n a b:Nat} {cls:List Nat} (h:RI n Rel cls) (ha:a < n) (hb:b < n) (hab:Rel a b):
 ∃cls' c,ZEc cls a b=some (cls',c)∧RI n Rel cls'∧Cor cls cls'∧(∃k:Nat,cls'[a]?=some k∧cls'[b]?=some k)∧(c=true→live n cls' < live n cls)∧(c=false→cls'=cls):=by
 have hl:=h.len
 have e1:cls[a]?=some cls[a]:=List.getElem?_eq_getElem (by omega)
 have e2:cls[b]?=some cls[b]:=List.getElem?_eq_getElem (by omega)
 generalize cls[a]=x at e1
 generalize cls[b]=y at e2
 unfold ZEc
 simp only[e1,e2]
 by_cases hxy:x=y
 ·rw[if_pos hxy]
  subst hxy
  exact⟨cls,false,rfl,h,Cor.refl _,⟨x,e1,e2⟩,fun hh=> (by cases hh),fun _=> rfl⟩
 rw[if_neg hxy]
 obtain⟨x1,x2⟩:=h.rep a x e1
 obtain⟨y1,y2⟩:=h.rep b y e2
 generalize hf:(fun c=> if c=max x y then min x y else c)=fn
 have hfn:∀c,fn c=if c=max x y then min x y else c:=fun c=> by rw[←hf]
 have mv:∀i:Nat,(cls.map fn)[i]?=cls[i]?.map fn:=fun i=> List.getElem?_map
 have hmin:fn (min x y)=min x y:=by rw[hfn];split <;> omega
 have hmx:fn (max x y)=min x y:=by rw[hfn,if_pos rfl]
 have hfx:fn x=min x y:=by
  by_cases hlt:x < y
  ·rw[show fn x=fn (min x y) by rw[Nat.min_eq_left (by omega)],hmin]
  ·rw[show fn x=fn (max x y) by rw[Nat.max_eq_left (by omega)],hmx]
 have hfy:fn y=min x y:=by
  by_cases hlt:x < y
  ·rw[show fn y=fn (max x y) by rw[Nat.max_eq_right (by omega)],hmx]
  ·rw[show fn y=fn (min x y) by rw[Nat.min_eq_right (by omega)],hmin]
 have hcm:cls[min x y]?=some (min x y):=by
  by_cases hlt:x < y
  ·rw[Nat.min_eq_left (by omega)];exact x2
  ·rw[Nat.min_eq_right (by omega)];exact y2
 have hcM:cls[max x y]?=some (max x y):=by
  by_cases hlt:x < y
  ·rw[Nat.max_eq_right (by omega)];exact y2
  ·rw[Nat.max_eq_left (by omega)];exact x2
 have relm:Rel (min x y) (max x y):=by
  have:Rel x y:=hR.trans (h.rel x a x x2 e1) (hR.trans hab (h.rel b y y e2 y2))
  by_cases hlt:x < y
  ·rw[Nat.min_eq_left (by omega),Nat.max_eq_right (by omega)];exact this
  ·rw[Nat.min_eq_right (by omega),Nat.max_eq_left (by omega)];exact hR.symm this
 refine⟨_,true,rfl,⟨by rw[List.length_map,hl],fun i r hr=> ?_,fun i j k h1 h2=> ?_⟩,fun i j k h1 h2=> ?_,⟨min x y,?_,?_⟩,fun _=> ?_,fun hh=> (by cases hh)⟩
 ·rw[mv] at hr
  cases hc:cls[i]? with
  |none=> rw[hc] at hr;cases hr
  |some c=>
   rw[hc] at hr
   cases hr
   obtain⟨c1,c2⟩:=h.rep i c hc
   rw[mv]
   by_cases hcc:c=max x y
   ·subst hcc
    rw[hmx,hcm]
    exact⟨by omega,by rw[Option.map_some,hmin]⟩
   ·have:fn c=c:=by rw[hfn,if_neg hcc]
    rw[this,c2,Option.map_some,this]
    exact⟨c1,rfl⟩
 ·rw[mv] at h1 h2
  have up:∀{i:Nat},(cls[i]?.map fn)=some k→Rel i k:=fun {i} hi=> by
   cases hc:cls[i]? with
   |none=> rw[hc] at hi;cases hi
   |some c=>
    rw[hc] at hi
    cases hi
    have hic:Rel i c:=h.rel i c c hc (h.rep i c hc).2
    rw[hfn]
    split
    ·rename_i hcc
     subst hcc
     exact hR.trans hic (hR.symm relm)
    ·exact hic
  exact hR.trans (up h1) (hR.symm (up h2))
 ·exact⟨fn k,by rw[mv,h1];rfl,by rw[mv,h2];rfl⟩
 ·rw[mv,e1];show some (fn x)=_;rw[hfx]
 ·rw[mv,e2];show some (fn y)=_;rw[hfy]
 ·unfold live
  refine zwR (a:=max x y) (fun k hk=> ?_) (List.mem_range.2 ?_) ?_ ?_
  ·simp only[decide_eq_true_eq] at hk⊢
   obtain⟨c,hc,rfl⟩:=List.mem_map.1 hk
   rw[hfn]
   split
   ·exact List.mem_of_getElem? hcm
   ·exact hc
  ·rw[←hl];exact(List.getElem?_eq_some_iff.1 hcM).1
  ·simp only[decide_eq_false_iff_not]
   intro hh
   obtain⟨c,hc,hc2⟩:=List.mem_map.1 hh
   rw[hfn] at hc2
   split at hc2
   ·omega
   ·rename_i hne
    exact hne hc2
  ·simp only[decide_eq_true_eq]
   exact List.mem_of_getElem? hcM
theorem zCM {Rel:Nat→Nat→Prop} (hR:Cong m apps Rel) {n:Nat}:∀(l:List Key) (i:Nat) (cls:List Nat),RI n Rel cls→(∀(j:Nat) (p:Key),l[j]?=some p→p.1 < n∧p.2 < n∧(used (i+j)=true→Rel p.1 p.2))→
 ∃cls',ZFi used l i cls=some cls'∧RI n Rel cls'∧Cor cls cls'∧∀(j:Nat) (p:Key),l[j]?=some p→used (i+j)=true→∃k:Nat,cls'[p.1]?=some k∧cls'[p.2]?=some k
 |[],i,cls,h,hl=> ⟨cls,rfl,h,Cor.refl _,fun j p hj=> by cases hj⟩
 |p::l,i,cls,h,hl=> by
  have hl':∀(j:Nat) (p:Key),l[j]?=some p→p.1 < n∧p.2 < n∧(used (i+1+j)=true→Rel p.1 p.2):=fun j q hq=> by
   have:=hl (j+1) q hq
   rw[show i+1+j=i+(j+1) by omega];exact this
  obtain⟨p1,p2,p3⟩:=hl 0 p rfl
  unfold ZFi
  by_cases hu:used i=true
  ·rw[if_pos hu]
   obtain⟨c1,b,g1,g2,g3,⟨k,g4,g5⟩,_⟩:=zEw hR h p1 p2 (p3 hu)
   obtain⟨cls',r1,r2,r3,r4⟩:=zCM hR l (i+1) c1 g2 hl'
   simp only[g1]
   refine⟨cls',r1,r2,g3.trans r3,fun j q hq huj=> ?_⟩
   cases j with
   |zero=> cases hq;exact r3 _ _ k g4 g5
   |succ j=> exact r4 j q hq (by rw[show i+1+j=i+(j+1) by omega];exact huj)
  ·rw[if_neg hu]
   obtain⟨cls',r1,r2,r3,r4⟩:=zCM hR l (i+1) cls h hl'
   refine⟨cls',r1,r2,r3,fun j q hq huj=> ?_⟩
   cases j with
   |zero=> exact absurd huj hu
   |succ j=> exact r4 j q hq (by rw[show i+1+j=i+(j+1) by omega];exact huj)
structure Rd (n:Nat) (Rel:Nat→Nat→Prop) (cls:List Nat) (more:Bool) (cls':List Nat) (more':Bool):Prop where
 ri:RI n Rel cls'
 cor:Cor cls cls'
 live:live n cls'≤live n cls
 mt:more=true→more'=true
 lt:more'=true→more=false→Cg.live n cls' < Cg.live n cls
 eq:more'=false→cls'=cls
theorem Rd.trans {n:Nat} {Rel:Nat→Nat→Prop} {c1 c2 c3:List Nat} {b1 b2 b3:Bool} (h:Rd n Rel c1 b1 c2 b2) (h':Rd n Rel c2 b2 c3 b3):Rd n Rel c1 b1 c3 b3:=
 ⟨h'.ri,h.cor.trans h'.cor,Nat.le_trans h'.live h.live,fun hb=> h'.mt (h.mt hb),fun h3 h1=> by
  cases hb:b2 with
  |true=> have:=h.lt hb h1;have:=h'.live;omega
  |false=> have:=h'.lt h3 hb;have:=h.live;omega,fun h3=> by
  have h2:b2=false:=by
   cases hb:b2 with
   |false=> rfl
   |true=> have:=h'.mt hb;rw[h3] at this;cases this
  rw[h'.eq h3,h.eq h2]⟩
theorem zCL {Rel:Nat→Nat→Prop} (hR:Cong m apps Rel) (ha:∀(j:Nat) (q:Key),apps[j]?=some q→q.1 < m+j∧q.2 < m+j) {i:Nat} {p:Key} (hp:apps[i]?=some p):∀(l:List Key) (k:Nat) (cls:List Nat) (more:Bool),(∀(j:Nat) (q:Key),l[j]?=some q→apps[k+j]?=some q)→RI (m+apps.length) Rel cls→
 ∃cls' more',ZEv m i p l k cls more=some (cls',more')∧Rd (m+apps.length) Rel cls more cls' more'∧(more'=false→∀(j:Nat) (q:Key) (x y:Nat),l[j]?=some q→cls[p.1]?=some x→cls[q.1]?=some x→cls[p.2]?=some y→cls[q.2]?=some y→∃z:Nat,cls[m+i]?=some z∧cls[m+(k+j)]?=some z)
 |[],k,cls,more,_,h=> ⟨cls,more,rfl,⟨h,Cor.refl _,Nat.le_refl _,fun h=> h,fun h1 h2=> (by rw[h1] at h2;cases h2),fun _=> rfl⟩,fun _ j q x y hj=> by cases hj⟩
 |q::l,k,cls,more,hl,h=> by
  have hq:apps[k]?=some q:=hl 0 q rfl
  have hl':∀(j:Nat) (q:Key),l[j]?=some q→apps[k+1+j]?=some q:=fun j r hj=> by
   rw[show k+1+j=k+(j+1) by omega];exact hl (j+1) r hj
  have a1:=ha i p hp
  have a2:=ha k q hq
  have i1:=(List.getElem?_eq_some_iff.1 hp).1
  have i2:=(List.getElem?_eq_some_iff.1 hq).1
  have hlen:=h.len
  have get:∀t:Nat,t < m+apps.length→∃k:Nat,cls[t]?=some k:=fun t ht=> ⟨_,List.getElem?_eq_getElem (by omega)⟩
  obtain⟨a,e1⟩:=get p.1 (by omega)
  obtain⟨b,e2⟩:=get q.1 (by omega)
  obtain⟨c,e3⟩:=get p.2 (by omega)
  obtain⟨d,e4⟩:=get q.2 (by omega)
  have hstep:ZEv m i p (q::l) k cls more=if a=b∧c=d then (match ZEc cls (m+i) (m+k) with
        |some (cls',b)=> ZEv m i p l (k+1) cls' (b||more)
        |none=> none) else ZEv m i p l (k+1) cls more:=by
   rw[ZEv];simp only[e1,e2,e3,e4]
  rw[hstep]
  by_cases hc:a=b∧c=d
  ·rw[if_pos hc]
   obtain⟨rfl,rfl⟩:=hc
   obtain⟨c1,bb,g1,g2,g3,g4,g5,g6⟩:=zEw hR h (a:=m+i) (b:=m+k) (by omega) (by omega) (hR.app hp hq (h.rel _ _ _ e1 e2) (h.rel _ _ _ e3 e4))
   simp only[g1]
   have rd:Rd (m+apps.length) Rel cls more c1 (bb||more):=⟨g2,g3,by
    cases bb with
    |true=> have:=g5 rfl;omega
    |false=> rw[g6 rfl];exact Nat.le_refl _,fun hm=> by rw[hm,Bool.or_true],fun h1 h2=> by
     rw[h2,Bool.or_false] at h1;exact g5 h1,fun hm=> g6 (by cases bb with
      |true=> cases hm
      |false=> rfl)⟩
   obtain⟨cls',more',r1,r2,r3⟩:=zCL hR ha hp l (k+1) c1 (bb||more) hl' g2
   refine⟨cls',more',r1,rd.trans r2,fun hm j r x y hj h1 h2 h3 h4=> ?_⟩
   have hb:(bb||more)=false:=by
    cases hb:(bb||more) with
    |false=> rfl
    |true=> have:=r2.mt hb;rw[hm] at this;cases this
   have e:=rd.eq hb
   cases j with
   |zero=>
    cases hj
    obtain⟨z,z1,z2⟩:=g4
    rw[e] at z1 z2
    exact⟨z,z1,z2⟩
   |succ j=>
    rw[e] at r3
    have:=r3 hm j r x y hj h1 h2 h3 h4
    rw[show k+(j+1)=k+1+j by omega]
    exact this
  ·rw[if_neg hc]
   obtain⟨cls',more',r1,r2,r3⟩:=zCL hR ha hp l (k+1) cls more hl' h
   refine⟨cls',more',r1,r2,fun hm j r x y hj h1 h2 h3 h4=> ?_⟩
   cases j with
   |zero=>
    cases hj
    rw[e1] at h1;rw[e2] at h2;rw[e3] at h3;rw[e4] at h4
    cases h1;cases h2;cases h3;cases h4
    exact absurd ⟨rfl,rfl⟩ hc
   |succ j=>
    have:=r3 hm j r x y hj h1 h2 h3 h4
    rw[show k+(j+1)=k+1+j by omega]
    exact this
theorem zOk {Rel:Nat→Nat→Prop} (hR:Cong m apps Rel) (ha:∀(j:Nat) (q:Key),apps[j]?=some q→q.1 < m+j∧q.2 < m+j):∀(l:List Key) (i:Nat) (cls:List Nat) (more:Bool),apps.drop i=l→RI (m+apps.length) Rel cls→
 ∃cls' more',ZFC m apps l i cls more=some (cls',more')∧Rd (m+apps.length) Rel cls more cls' more'∧(more'=false→∀(j k:Nat) (p q:Key) (x y:Nat),i≤j→k < j→apps[j]?=some p→apps[k]?=some q→cls[p.1]?=some x→cls[q.1]?=some x→cls[p.2]?=some y→cls[q.2]?=some y→∃z:Nat,cls[m+j]?=some z∧cls[m+k]?=some z)
 |[],i,cls,more,hd,h=> ⟨cls,more,rfl,⟨h,Cor.refl _,Nat.le_refl _,fun h=> h,fun h1 h2=> (by rw[h1] at h2;cases h2),fun _=> rfl⟩,fun _ j k p q x y hij _ hj=> by
  have h1:=(List.getElem?_eq_some_iff.1 hj).1
  have h2:=congrArg List.length hd
  rw[List.length_drop,List.length_nil] at h2
  omega⟩
 |p::l,i,cls,more,hd,h=> by
  have hp:apps[i]?=some p:=by rw[←List.head?_drop,hd];rfl
  have hd':apps.drop (i+1)=l:=by rw[←List.drop_drop,hd];rfl
  have hi:=(List.getElem?_eq_some_iff.1 hp).1
  have ht:∀(j:Nat) (q:Key),(apps.take i)[j]?=some q→apps[0+j]?=some q:=fun j q hj=> by
   have:=(List.getElem?_eq_some_iff.1 hj).1
   rw[List.length_take] at this
   rw[List.getElem?_take_of_lt (by omega)] at hj
   rw[Nat.zero_add];exact hj
  obtain⟨c1,b1,g1,g2,g3⟩:=zCL hR ha hp (apps.take i) 0 cls more ht h
  obtain⟨cls',more',r1,r2,r3⟩:=zOk hR ha l (i+1) c1 b1 hd' g2.ri
  unfold ZFC
  simp only[g1]
  refine⟨cls',more',r1,g2.trans r2,fun hm j k p' q x y hij hkj hj hk h1 h2 h3 h4=> ?_⟩
  have hb:b1=false:=by
   cases hb:b1 with
   |false=> rfl
   |true=> have:=r2.mt hb;rw[hm] at this;cases this
  have e:=g2.eq hb
  by_cases hji:j=i
  ·subst hji
   rw[hp] at hj;cases hj
   have hk':(apps.take j)[k]?=some q:=by rw[List.getElem?_take_of_lt hkj];exact hk
   have:=g3 hb k q x y hk' h1 h2 h3 h4
   rw[Nat.zero_add] at this
   exact this
  ·rw[e] at r3
   exact r3 hm j k p' q x y (by omega) hkj hj hk h1 h2 h3 h4
theorem zYp {Rel:Nat→Nat→Prop} (hR:Cong m apps Rel) (ha:∀(j:Nat) (q:Key),apps[j]?=some q→q.1 < m+j∧q.2 < m+j):∀(f:Nat) (cls:List Nat),live (m+apps.length) cls < f→RI (m+apps.length) Rel cls→
 ∃cls',ZFY m apps f cls=some cls'∧RI (m+apps.length) Rel cls'∧Cor cls cls'∧(∀(j k:Nat) (p q:Key) (x y:Nat),k < j→apps[j]?=some p→apps[k]?=some q→cls'[p.1]?=some x→cls'[q.1]?=some x→cls'[p.2]?=some y→cls'[q.2]?=some y→∃z:Nat,cls'[m+j]?=some z∧cls'[m+k]?=some z):=by
 intro f
 induction f with
 |zero=> intro cls h;omega
 |succ f ih=>
  intro cls hf h
  obtain⟨c1,b1,g1,g2,g3⟩:=zOk hR ha apps 0 cls false rfl h
  unfold ZFY
  simp only[g1]
  cases b1 with
  |true=>
   rw[if_pos rfl]
   have:=g2.lt rfl rfl
   obtain⟨cls',r1,r2,r3,r4⟩:=ih c1 (by omega) g2.ri
   exact⟨cls',r1,r2,g2.cor.trans r3,r4⟩
  |false=>
   rw[if_neg (by simp)]
   have e:=g2.eq rfl
   refine⟨c1,rfl,g2.ri,g2.cor,?_⟩
   rw[e]
   intro j k p q x y hkj
   exact g3 rfl j k p q x y (Nat.zero_le _) hkj
theorem zYv (hP:RightP m apps merges) (hn:m+apps.length < 90):∃res,ZGq m apps merges used=some res∧LeastC m apps merges used res:=by
 have main:∀Rel,Cong m apps Rel→(∀(i:Nat) (p:Key),merges[i]?=some p→used i=true→Rel p.1 p.2)→∃res,ZGq m apps merges used=some res∧RI (m+apps.length) Rel res∧(∀(i:Nat) (p:Key),merges[i]?=some p→used i=true→∃k:Nat,res[p.1]?=some k∧res[p.2]?=some k)∧(∀(j k:Nat) (p q:Key) (x y:Nat),k < j→apps[j]?=some p→apps[k]?=some q→res[p.1]?=some x→res[q.1]?=some x→res[p.2]?=some y→res[q.2]?=some y→∃z:Nat,res[m+j]?=some z∧res[m+k]?=some z):=by
  intro Rel hR hM
  have hc:∀i k:Nat,(List.range (m+apps.length))[i]?=some k→i=k∧k < m+apps.length:=fun i k h=> by
   obtain⟨h1,h2⟩:=List.getElem?_eq_some_iff.1 h
   rw[List.getElem_range] at h2
   rw[List.length_range] at h1
   omega
  have h0:RI (m+apps.length) Rel (List.range (m+apps.length)):=⟨List.length_range,fun i r h=> by
   obtain⟨rfl,_⟩:=hc i r h
   exact⟨Nat.le_refl _,h⟩,fun i j k h1 h2=> by
   obtain⟨rfl,_⟩:=hc i k h1
   obtain⟨rfl,_⟩:=hc j _ h2
   exact hR.refl _⟩
  obtain⟨c1,g1,g2,_,g4⟩:=zCM hR (used:=used) merges 0 _ h0 fun j p hj=> by
   obtain⟨a,b⟩:=hP.hm j p hj
   exact⟨a,b,fun hu=> hM j p hj (by rw[Nat.zero_add] at hu;exact hu)⟩
  have hl:=zCv (m+apps.length) c1
  obtain⟨res,r1,r2,r3,r4⟩:=zYp hR hP.ha 100 c1 (by omega) g2
  refine⟨res,by unfold ZGq;rw[g1];exact r1,r2,fun i p hp hu=> ?_,r4⟩
  obtain⟨k,k1,k2⟩:=g4 i p hp (by rw[Nat.zero_add];exact hu)
  exact r3 _ _ k k1 k2
 obtain⟨res,h1,h2,h3,h4⟩:=main (fun _ _=> True) ⟨fun _=> trivial,fun _=> trivial,fun _ _=> trivial,fun _ _ _ _=> trivial⟩ (fun _ _ _ _=> trivial)
 refine⟨res,h1,h2.len,h2.rep,h3,fun i j p q x y hp hq p1 q1 p2 q2=> ?_,fun Rel hR hM i j k hi hj=> ?_⟩
 ·rcases Nat.lt_trichotomy i j with h|h|h
  ·obtain⟨z,z1,z2⟩:=h4 j i q p x y h hq hp q1 p1 q2 p2
   exact⟨z,z2,z1⟩
  ·subst h
   have hi:=(List.getElem?_eq_some_iff.1 hp).1
   have hl:=h2.len
   have e:res[m+i]?=some res[m+i]:=List.getElem?_eq_getElem (by omega)
   exact⟨_,e,e⟩
  ·exact h4 i j p q x y h hp hq p1 q1 p2 q2
 ·obtain⟨res',g1,g2,_⟩:=main Rel hR hM
  rw[h1] at g1;cases g1
  exact g2.rel i j k hi hj
def ZDa (m:Nat) (apps merges:List Key) (U:Nat→Bool) (a b:Nat):Prop:=∀Rel,Cong m apps Rel→(∀(i:Nat) (p:Key),merges[i]?=some p→U i=true→Rel p.1 p.2)→Rel a b
theorem ZDa.mono {U U':Nat→Bool} {a b:Nat} (h:ZDa m apps merges U a b) (hU:∀i,i < merges.length→U i=true→U' i=true):ZDa m apps merges U' a b:=fun Rel hR hM=>
 h Rel hR fun i p hp hu=> hM i p hp (hU i (List.getElem?_eq_some_iff.1 hp).1 hu)
theorem LeastC.impl {res:List Nat} (hP:RightP m apps merges) (h:LeastC m apps merges used res) {a b:Nat} (ha:a < m+apps.length):ZDa m apps merges used a b↔res[a]?=res[b]?:=by
 constructor
 ·intro hi
  exact hi _ (h.cong hP) fun i p hp hu=> by
   obtain⟨k,h1,h2⟩:=h.mrg i p hp hu
   rw[h1,h2]
 ·intro hi Rel hR hM
  have ha':a < res.length:=by rw[h.len];exact ha
  have e:res[a]?=some res[a]:=List.getElem?_eq_getElem ha'
  exact h.lst Rel hR hM a b _ e (by rw[←hi];exact e)
theorem Clo.impl {A:Cl} (hP:RightP m apps merges) (h:Clo m apps merges used A) (hn:m+apps.length < 100000) {a b:Nat} (ha:a < m+apps.length) (hb:b < m+apps.length):ZDa m apps merges used a b↔A.cls[a]?=A.cls[b]?:=by
 obtain⟨res,_,h2,h3⟩:=h.least hn
 rw[h2.impl hP ha,h3 a b ha hb]
def ZCy:List (Nat×Bool)→Nat→Bool
 |[],_=> false
 |e::l,i=> if e.1=i then e.2 else ZCy l i
def ZCQ:List (Nat×Bool)→Nat→Bool→List (Nat×Bool)
 |[],i,b=> [(i,b)]
 |e::l,i,b=> if e.1=i then (i,b)::l else e::ZCQ l i b
theorem Zi6 (l:List (Nat×Bool)) (i j:Nat) (b:Bool):ZCy (ZCQ l i b) j=if j=i then b else ZCy l j:=by
 induction l with
 |nil=>
  unfold ZCQ ZCy
  by_cases h:j=i
  ·subst h;simp
  ·rw[if_neg h,if_neg (fun hh=> h hh.symm)];rfl
 |cons e l ih=>
  unfold ZCQ
  by_cases he:e.1=i
  ·rw[if_pos he]
   unfold ZCy
   by_cases h:j=i
   ·subst h;simp
   ·rw[if_neg h,if_neg (fun hh=> h hh.symm),if_neg (fun hh=> h (by rw[←hh,he]))]
  ·rw[if_neg he]
   unfold ZCy
   by_cases hk:e.1=j
   ·rw[if_pos hk,if_pos hk,if_neg (fun hh=> he (by rw[hk,hh]))]
   ·rw[if_neg hk,if_neg hk,ih]
def ZD1 (same:(Nat→Bool)→Bool):Nat→Nat→List (Nat×Bool)→List Nat→List (Nat×Bool)×List Nat
 |0,_,T,out=> (T,out)
 |k+1,i,T,out=> if ZCy T i=true then (if same (ZCy (ZCQ T i false))=true then ZD1 same k (i+1) (ZCQ T i false) out else ZD1 same k (i+1) (ZCQ (ZCQ T i false) i true) (out++[i])) else ZD1 same k (i+1) T out
structure MinI (m:Nat) (apps merges:List Key) (a b i:Nat) (T:List (Nat×Bool)) (out:List Nat):Prop where
 imp:ZDa m apps merges (ZCy T) a b
 lt:∀k∈out,k < i
 srt:out.Pairwise (· < ·)
 eq:∀j,j < i→(ZCy T j=true↔j∈out)
 irr:∀k∈out,¬ZDa m apps merges (fun j=> ZCy T j && decide (j≠k)) a b
theorem ZBZ {same:(Nat→Bool)→Bool} {a b:Nat} (hs:∀U,same U=true↔ZDa m apps merges U a b):∀(k i:Nat) (T:List (Nat×Bool)) (out:List Nat),MinI m apps merges a b i T out→
 MinI m apps merges a b (i+k) (ZD1 same k i T out).1 (ZD1 same k i T out).2:=by
 intro k
 induction k with
 |zero=> intro i T out h;exact h
 |succ k ih=>
  intro i T out h
  rw[show i+(k+1)=i+1+k by omega]
  unfold ZD1
  split
  ·rename_i hg
   split
   ·rename_i hsame
    refine ih (i+1) _ _ ⟨(hs _).1 hsame,fun k hk=> by have:=h.lt k hk;omega,h.srt,fun j hj=> ?_,fun k hk hi=> h.irr k hk (hi.mono fun j _ hh=> ?_)⟩
    ·rw[Zi6]
     by_cases hji:j=i
     ·subst hji
      rw[if_pos rfl]
      exact⟨fun hh=> (by cases hh),fun hh=> by have:=h.lt j hh;omega⟩
     ·rw[if_neg hji];exact h.eq j (by omega)
    ·rw[Zi6] at hh
     split at hh
     ·cases hh
     ·exact hh
   ·rename_i hsame
    have e:∀j,ZCy (ZCQ (ZCQ T i false) i true) j=ZCy T j:=fun j=> by
     rw[Zi6,Zi6]
     split
     ·rename_i hj;rw[hj,hg]
     ·rfl
    have ef:ZCy (ZCQ (ZCQ T i false) i true)=ZCy T:=funext e
    refine ih (i+1) _ _ ⟨by rw[ef];exact h.imp,fun k hk=> ?_,?_,fun j hj=> ?_,fun k hk hi=> ?_⟩
    ·rcases List.mem_append.1 hk with hk|hk
     ·have:=h.lt k hk;omega
     ·rw[List.mem_singleton.1 hk];omega
    ·rw[List.pairwise_append]
     exact⟨h.srt,List.pairwise_singleton _ _,fun x hx y hy=> by rw[List.mem_singleton.1 hy];exact h.lt x hx⟩
    ·rw[e,List.mem_append,List.mem_singleton]
     by_cases hji:j=i
     ·subst hji;exact⟨fun _=> .inr rfl,fun _=> hg⟩
     ·rw[h.eq j (by omega)]
      exact⟨.inl,fun hh=> by
       rcases hh with hh|hh
       ·exact hh
       ·exact absurd hh hji⟩
    ·rw[ef] at hi
     rcases List.mem_append.1 hk with hk|hk
     ·exact h.irr k hk hi
     ·rw[List.mem_singleton.1 hk] at hi
      apply hsame
      rw[hs]
      refine hi.mono fun j _ hh=> ?_
      rw[Bool.and_eq_true,decide_eq_true_eq] at hh
      rw[Zi6,if_neg hh.2];exact hh.1
  ·rename_i hg
   refine ih (i+1) T out ⟨h.imp,fun k hk=> by have:=h.lt k hk;omega,h.srt,fun j hj=> ?_,h.irr⟩
   by_cases hji:j=i
   ·subst hji
    exact⟨fun hh=> absurd hh hg,fun hh=> by have:=h.lt j hh;omega⟩
   ·exact h.eq j (by omega)
end
end
section
open Go Go.Ae
attribute [local simp] ZCl ZF JC JB ZR ZS Zo ZE Jx Jw Jq Zw Zk S_h ZH Zz ZM ZK ZL zt ZO ZN Z7 Zj Jp Z8 JD JE Zt Z0 ZCD ZP ZQ zq zB zz zA zo Z5 zr zO Jy Jz JG JH Z1 Z2 Z3 Z4 ZI Zy JF ZT ZW ZB ZA ZY ZX ZZ ZnB Zi3 V.ones Je Jd Jh Jg Jf Ji Jn Jo Jm ZV Jk Jl Jj zK ZU zL JA Jt Js Ju Jr Jv Ja Jb Jc Z9 max2 cond_true cond_false List.nil_append List.cons_append zLZ zLY zLI zTO zTP zLP zLQ zUw zUx zUz zUA zUB zUC zUD zUE zUF zUG zUy zLV zLW zUU zUQ zUR zUS zUT zUV zUW zTS zTQ zTR zTT zUX zLX zLJ zTU zTV zTW zTX zTY zTZ zT0 zT1 zT2 zLK zLL zLN zT3 zT4 zCb zT5 zT6 zUd zT8 zT9 zUa zUb zUc zUe zUf zUg zT7 zUh zUn zUv zUo zUp zUq zUr zUs zUt zUu zUH zUO zUI zUJ zUK zUL zUM zUN zUP zUm zUi zUj zUk zUl zLM zLT zLR zLS zLU
section
attribute [local simp] ld3 ZCG ZCP sz3 ZCz sp2 JO zK zL JY JX ZHG ZHF
attribute [-simp] zo zr zq zz zA zB zO max2 zCb
theorem ZHD {get:Nat→Blk} {nid r off len cap z:Nat} {ex:Bool}:ZmL Tryz.prog false get nid .len [27] [.hs r off len cap z ex]=some {v:=nv len}:=by simp[ZmL,ZDQ,ZEx]
def jf (x y c:Nat):Nat:=if c=max x y then min x y else c
set_option maxHeartbeats 2000000 in
theorem zRj {cls:List Nat} {x y rc n nb:Nat} {ex:Bool} (hn:cls.length=n) (hn2:n < 100000) (hrc:rc < nb):∀(k i:Nat) (f:Nat→V) (g:Nat→Blk) (d:List Nat),n - i=k→i≤n→f 0=.hs rc 0 n n 1 ex→f 9=nv (min x y)→f 10=nv (max x y)→f 11=nv i→g rc=.row 0 (ints ((cls.take i).map (jf x y)++cls.drop i))→
 ZCW 45 (fun e _ nb' g' d'=> e=.exit 0∧nb'=nb∧g' rc=.row 0 (ints (cls.map (jf x y)))∧(∀r,r≠rc→g' r=g r)∧(∀r∈d',r=rc∨r∈d)∧(∀r∈d,r∈d')∧(rc∉d'→g' rc=g rc)) (C 50 zkh (S 45 f [] (mkH nb g d))):=by
 intro k
 induction k with
 |zero=>
  intro i f g d hk hi f0 f9 f10 f11 hg
  obtain rfl:i=n:=by omega
  subst hn
  have e2:ZmK .lss .i64 (cls.length:Int) .i64 (cls.length:Int)=some (.bool false):=by rw[ltN];simp
  rw[List.take_length,List.drop_length,List.append_nil] at hg
  rw[zLO]
  simp(disch:=first|assumption|decide|omega)[f0,f11,e2,ZHD]
  exact ZCW.mk ⟨rfl,rfl,hg,fun r _=> rfl,fun r h=> .inr h,fun r h=> h,fun _=> rfl⟩
 |succ k ih=>
  intro i f g d hk hi f0 f9 f10 f11 hg
  have hil:i < n:=by omega
  have hil':i < cls.length:=by omega
  have e1:=add1 (a:=i) (by omega)
  have e2:ZmK .lss .i64 (i:Int) .i64 (n:Int)=some (.bool true):=by rw[ltN];simp[hil]
  have hlt:((cls.take i).map (jf x y)).length=i:=by rw[List.length_map,List.length_take];omega
  have hci:cls[i]?=some cls[i]:=List.getElem?_eq_getElem hil'
  have hdr:cls.drop i=cls[i]::cls.drop (i+1):=List.drop_eq_getElem_cons hil'
  have htk:(cls.take (i+1)).map (jf x y)=(cls.take i).map (jf x y)++[jf x y cls[i]]:=by rw[List.take_succ_eq_append_getElem hil',List.map_append];rfl
  generalize cls[i]=c at hci hdr htk
  have hgi:((cls.take i).map (jf x y)++cls.drop i)[i]?=some c:=by
   rw[List.getElem?_append_right (by omega),hlt,Nat.sub_self,hdr];rfl
  have h1:=Zp hgi
  have hlen:((cls.take i).map (jf x y)++cls.drop i).length=n:=by rw[List.length_append,hlt,List.length_drop];omega
  have hset:((cls.take i).map (jf x y)++cls.drop i).set i (min x y)=(cls.take i).map (jf x y)++min x y::cls.drop (i+1):=by
   rw[List.set_append_right _ _ (by omega),hlt,Nat.sub_self,hdr];rfl
  generalize hL:(cls.take i).map (jf x y)++cls.drop i=LL at hg hgi h1 hlen hset
  have hin:i≤n:=by omega
  have sp1:splice (ints LL) [nv (min x y)] i=some (ints (LL.set i (min x y))):=by rw[zaV (by rw[Zu];omega),zzg]
  rw[zLO]
  by_cases hc:c=max x y
  ·have e3:ZmK .eql .i64 (c:Int) .i64 ((max x y:Nat):Int)=some (.bool true):=by rw[eqN];simp[hc]
   have hnew:(cls.take i).map (jf x y)++min x y::cls.drop (i+1)=(cls.take (i+1)).map (jf x y)++cls.drop (i+1):=by
    rw[htk,List.append_assoc,show jf x y c=min x y by unfold jf;rw[if_pos hc]];rfl
   rw[hnew] at hset
   rw[hset] at sp1
   generalize hmx:max x y=mx at *
   generalize hmn:min x y=mn at *
   simp(disch:=first|assumption|decide|omega)[f0,f9,f10,f11,e1,e2,e3,ZHD,hg,h1,sp1,Zu,hlen,hin]
   refine(ih (i+1) _ _ _ (by omega) hil ?_ ?_ ?_ ?_ ?_).weak ?_
   ·simp[f0]
   ·simp[f9]
   ·simp[f10]
   ·simp
   ·simp
   ·rintro e f' nb' g' d' ⟨rfl,rfl,q1,q2,q3,q4,q5⟩
    refine⟨rfl,rfl,q1,fun r hr=> ?_,fun r hr=> ?_,fun r hr=> ?_,fun hh=> absurd (q4 rc List.mem_cons_self) hh⟩
    ·rw[q2 r hr];simp[hr]
    ·rcases q3 r hr with h|h
     ·exact .inl h
     ·rcases List.mem_cons.1 h with h|h
      ·exact .inl h
      ·exact .inr h
    ·exact q4 r (List.mem_cons_of_mem _ hr)
  ·have e3:ZmK .eql .i64 (c:Int) .i64 ((max x y:Nat):Int)=some (.bool false):=by rw[eqN];simp[hc]
   have hnew:LL=(cls.take (i+1)).map (jf x y)++cls.drop (i+1):=by
    rw[←hL,htk,hdr,List.append_assoc,show jf x y c=c by unfold jf;rw[if_neg hc]];rfl
   generalize hmx:max x y=mx at *
   generalize hmn:min x y=mn at *
   simp(disch:=first|assumption|decide|omega)[f0,f9,f10,f11,e1,e2,e3,ZHD,hg,h1,Zu,hlen,hin]
   refine(ih (i+1) _ _ _ (by omega) hil ?_ ?_ ?_ ?_ ?_).weak ?_
   ·simp[f0]
   ·simp[f9]
   ·simp[f10]
   ·simp
   ·rw[hg,hnew]
   ·rintro e f' nb' g' d' ⟨q0,q1,q2,q3,q4,q5,q6⟩
    exact⟨q0,q1,q2,q3,q4,q5,by rw[←hg];exact q6⟩
theorem zEu:∀{l l':List Nat},ints l=ints l'→l=l'
 |[],[],_=> rfl
 |[],_::_,h=> by cases h
 |_::_,[],h=> by cases h
 |a::l,b::l',h=> by
  have h:nv a::ints l=nv b::ints l':=h
  injection h with h1 h2
  injection h1 with _ h1
  rw[zEu h2,show a=b by omega]
set_option maxHeartbeats 4000000 in
theorem zEy {cls cls':List Nat} {rc n nb a b:Nat} {ex c:Bool} {g:Nat→Blk} {d:List Nat} (hn:cls.length=n) (hn2:n < 100000) (hrc:rc < nb) (hg:g rc=.row 0 (ints cls)) (hj:ZEc cls a b=some (cls',c)):
 ZFo (fun v nb' g' d'=> v=.bool c∧nb'=nb∧g' rc=.row 0 (ints cls')∧(∀r,r≠rc→g' r=g r)∧(∀r∈d',r=rc∨r∈d)∧(rc∉d'→cls'=cls)) ((EV Tryz.prog hs ks).call 50 [.hs rc 0 n n 1 ex,nv a,nv b] (mkH nb g d)):=by
 unfold ZEc at hj
 split at hj
 case h_2=> cases hj
 rename_i x y hx hy
 have han:=(List.getElem?_eq_some_iff.1 hx).1
 have hbn:=(List.getElem?_eq_some_iff.1 hy).1
 have h1:=Zp hx
 have h2:=Zp hy
 have l1:a < n:=by omega
 have l2:b < n:=by omega
 have l3:a≤n:=by omega
 have l4:b≤n:=by omega
 rw[zUY _ (by simp)]
 by_cases hxy:x=y
 ·rw[if_pos hxy] at hj
  cases hj
  have e1:ZmK .eql .i64 (x:Int) .i64 (y:Int)=some (.bool true):=by rw[eqN];simp[hxy]
  simp(disch:=first|assumption|decide|omega)[hg,h1,h2,e1,Zu,hn,l3,l4]
  refine ZFo.mk ?_
  simp[hg]
  exact fun r h=> .inr h
 ·rw[if_neg hxy] at hj
  cases hj
  have e1:ZmK .eql .i64 (x:Int) .i64 (y:Int)=some (.bool false):=by rw[eqN];simp[hxy]
  have hfn:(fun c=> if c=max x y then min x y else c)=jf x y:=rfl
  rw[hfn]
  generalize hmx:max x y=mx
  generalize hmn:min x y=mn
  suffices main:ZCW 45 (fun e f' nb' g' d'=> e=.ret∧f' 6=.bool true∧nb'=nb∧g' rc=.row 0 (ints (cls.map (jf x y)))∧(∀r,r≠rc→g' r=g r)∧(∀r∈d',r=rc∨r∈d)∧(rc∉d'→g' rc=g rc)) (C 50 k50 (S 45 (ZCl [.hs rc 0 n n 1 ex,nv a,nv b] 0 fun _=> ZmM) [] (mkH nb g d))) by
   refine ZCW.rets main ?_
   rintro e f' nb' g' d' ⟨rfl,h2,q1,q2,q3,q4,q5⟩
   rw[zLZ]
   simp(disch:=first|assumption|decide|omega)[h2]
   refine ZFo.mk ⟨rfl,q1,q2,q3,q4,fun hh=> ?_⟩
   have:=q5 hh
   rw[q2,hg] at this
   exact zEu (by injection this)
  rw[zLY]
  ·refine ZCW.seq (P:=fun f' nb' g' d'=> nb'=nb∧g'=g∧d'=d∧f' 0=.hs rc 0 n n 1 ex∧f' 1=nv a∧f' 2=nv b) ?_ ?_
   ·rw[zLI]
    simp(disch:=first|assumption|decide|omega)
    refine ZCW.mk ?_
    exact⟨rfl,rfl,rfl,rfl,by simp,by simp,by simp⟩
   rintro f nb1 g1 d1 ⟨hb,hg',hd,f0,f1,f2⟩
   have hb:=hb.symm
   have hg':=hg'.symm
   have hd:=hd.symm
   subst hb hg' hd
   rw[zLP]
   refine ZCW.seq (P:=fun f' nb' g' d'=> nb'=nb∧g'=g∧d'=d∧f' 0=.hs rc 0 n n 1 ex∧f' 7=nv x∧f' 8=nv y) ?_ ?_
   ·rw[zLQ]
    simp(disch:=first|assumption|decide|omega)[f0,f1,f2,hg,h1,h2,Zu,hn,l3,l4]
    refine ZCW.mk ?_
    exact⟨rfl,rfl,rfl,rfl,by simp[f0],by simp,by simp⟩
   rintro f nb1 g1 d1 ⟨hb,hg',hd,f0,f7,f8⟩
   have hb:=hb.symm
   have hg':=hg'.symm
   have hd:=hd.symm
   subst hb hg' hd
   rw[zLV]
   refine ZCW.seq (P:=fun f' nb' g' d'=> nb'=nb∧g'=g∧d'=d∧f' 0=.hs rc 0 n n 1 ex∧f' 7=nv x∧f' 8=nv y) ?_ ?_
   ·rw[zLW]
    simp(disch:=first|assumption|decide|omega)[f7,f8,e1]
    refine ZCW.mk ?_
    exact⟨rfl,rfl,rfl,rfl,by simp[f0],by simp[f7],by simp[f8]⟩
   rintro f nb2 g2 d2 ⟨hb,hg',hd,f0,f7,f8⟩
   have hb:=hb.symm
   have hg':=hg'.symm
   have hd:=hd.symm
   subst hb hg' hd
   rw[zLX]
   refine ZCW.seq (P:=fun f' nb' g' d'=> nb'=nb∧g'=g∧d'=d∧f' 0=.hs rc 0 n n 1 ex∧f' 9=nv (min x y)∧f' 10=nv (max x y)) ?_ ?_
   ·rw[zLJ]
    simp(disch:=first|assumption|decide|omega)[f7,f8]
    refine ZCW.mk ?_
    exact⟨rfl,rfl,rfl,rfl,by simp[f0],by simp,by simp⟩
   rintro f nb3 g3 d3 ⟨hb,hg',hd,f0,f9,f10⟩
   have hb:=hb.symm
   have hg':=hg'.symm
   have hd:=hd.symm
   subst hb hg' hd
   rw[zLK]
   refine ZCW.seq (P:=fun f' nb' g' d'=> nb'=nb∧g' rc=.row 0 (ints (cls.map (jf x y)))∧(∀r,r≠rc→g' r=g r)∧(∀r∈d',r=rc∨r∈d)∧(rc∉d'→g' rc=g rc)) ?_ ?_
   ·rw[zLL]
    refine ZCW.seq (P:=fun f' nb' g' d'=> nb'=nb∧g'=g∧d'=d∧f' 0=.hs rc 0 n n 1 ex∧f' 9=nv (min x y)∧f' 10=nv (max x y)∧f' 11=nv 0) ?_ ?_
    ·rw[zLN]
     simp(disch:=first|assumption|decide|omega)
     refine ZCW.mk ?_
     exact⟨rfl,rfl,rfl,rfl,by simp[f0],by simp[f9],by simp[f10],by simp⟩
    rintro f nb4 g4 d4 ⟨hb,hg',hd,f0,f9,f10,f11⟩
    have hb:=hb.symm
    have hg':=hg'.symm
    have hd:=hd.symm
    subst hb hg' hd
    rw[zCb]
    refine ZCW.block (zRj (cls:=cls) hn hn2 hrc n 0 f g d rfl (Nat.zero_le _) f0 f9 f10 f11 (by simpa using hg)) ?_ ?_
    ·rintro f' nb' g' d' ⟨_,q1,q2,q3,q4,_,q6⟩
     exact⟨rfl,q1,q2,q3,q4,q6⟩
    ·rintro e f' nb' g' d' hne ⟨rfl,_⟩;exact absurd rfl hne
   rintro f nb4 g4 d4 ⟨q1,q2,q3,q4,q6⟩
   rw[zLM]
   subst q1
   rw[zLT,zLR]
   simp(disch:=first|assumption|decide|omega) only[ZE,zLS,ZF,zLU,Zk,S_h,Zz]
   refine ZCW.mk ?_
   exact⟨rfl,by simp,rfl,q2,q3,q4,q6⟩
end
end
section
open Go Go.Ae
attribute [local simp] ZCl ZF JC JB ZR ZS Zo ZE Jx Jw Jq Zw Zk S_h ZH Zz ZM ZK ZL zt ZO ZN Z7 Zj Jp Z8 JD JE Zt Z0 ZCD ZP ZQ zq zB zz zA zo Z5 zr zO Jy Jz JG JH Z1 Z2 Z3 Z4 ZI Zy JF ZT ZW ZB ZA ZY ZX ZZ ZnB Zi3 V.ones Je Jd Jh Jg Jf Ji Jn Jo Jm ZV Jk Jl Jj zK ZU zL JA Jt Js Ju Jr Jv Ja Jb Jc Z9 max2 cond_true cond_false List.nil_append List.cons_append zdH zdG zdy zrr zrs zbp zsj zsh zsi zbt zbu ztE ztC ztD zaE zuT zrv zrF zry zrz zrA zrB zrC zrD zrE zrH zrI zrJ zrx zrK zrW zrQ zrR zrS zrT zrU zrV zrP zrL zrM zrN zrO zbv zbo zr1 zrZ zr0 zay zr3 zr5 zsd zr8 zr9 zsa zsb zsc zsf zsg zsl zr7 zbG zcC zcD zss zst zsu zsv zsw zbI zbJ zsy zsz zsD zsE zsF zsG zsH zsI zsJ zsK zsA zsB zsC zsL zbH zsn zso zsp zsq zbq zbr zsR zsP zsQ zaA zsT zsV zsZ zsX zsY zs1 zs2 zs3 zbK zdz zs8 zs6 zs7 zdA ztc zta ztb zbL zte ztg ztn zti ztj ztk ztl ztm ztp ztq ztr zdB zbM zdC ztz ztx zty zbO ztB ztG ztM ztI ztJ ztK ztL ztO ztP ztQ zdD zbP zdE zbR ztX ztY zt9 zuk zus zut zuu zuv zuw zux ztZ zt0 zt1 zt2 zt3 zt4 zt5 zt6 zt7 zt8 zua zub zuc zud zue zuf zug zuh zui zuj zul zum zun zuo zup zuq zur zbS zdF zuz zuA zuE zuF zuG zuH zuI zuJ zuK zuL zuB zuC zuD zuM zbQ ztS ztT ztU ztV zbN zts ztt ztu ztv zbs zuQ zuN zuO zuP zuR
section
attribute [local simp] ld3 ld4 ZCB ZCG ZCN ZCP ZCK ZCH ZEs ZEr JR JS sz3 sz4 ZCx ZCz sp2 JO zK zL JY JX ZEE zDm ZHR
attribute [-simp] zo zr zq zz zA zB zO max2 zaE zay zaA zbL zbO zbP zbQ zbG zbH zbJ zbI zbR zbS zbM zbN zbK
structure CI (m:Nat) (av mv uv:V) (n nb0:Nat) (g0:Nat→Blk) (cls:List Nat) (rc:Nat) (f:Nat→V) (nb:Nat) (g:Nat→Blk):Prop where
 f0:f 0=nv m
 f1:f 1=av
 f2:f 2=mv
 f3:f 3=uv
 f9:f 9=.hs rc 0 n n 1 false
 len:cls.length=n
 hg:g rc=.row 0 (ints cls)
 lo:nb0≤rc
 lt:rc < nb
 hnb:nb≤nb0+n
 fr:∀r,r < nb0→g r=g0 r
set_option maxHeartbeats 2000000 in
theorem zP3 {m n nb0 la:Nat} {av mv uv:V} {g0:Nat→Blk} (hn:m+la=n) (hn2:n < 1000) (hn0:n≠0) (hAl:∀get nid,ZmL Tryz.prog false get nid .len [22] [av]=some {v:=nv la}):
 ∀(k i rc:Nat) (f:Nat→V) (nb:Nat) (g:Nat→Blk) (d:List Nat),n - i=k→i≤n→f 0=nv m→f 1=av→f 2=mv→f 3=uv→f 9=fld i rc 1→f 10=nv i→(i≠0→nb0≤rc∧rc < nb∧g rc=.row 0 (ints (List.range i)))→nb0≤nb→nb≤nb0+i→(∀r,r < nb0→g r=g0 r)→
 ZhY 109 (fun e f' nb' g'=> e=.exit 0∧∃rc,CI m av mv uv n nb0 g0 (List.range n) rc f' nb' g') (C 26 zj6 (S 109 f [] (mkH nb g d))):=by
 have hadd:ZmK .add .i64 (m:Int) .i64 (la:Int)=some (nv n):=by rw[addN (by omega),hn]
 intro k
 induction k with
 |zero=>
  intro i rc f nb g d hk hi f0 f1 f2 f3 f9 f10 hr hnb hnb2 hfr
  obtain rfl:i=n:=by omega
  have e2:ZmK .lss .i64 (i:Int) .i64 (i:Int)=some (.bool false):=by rw[ltN];simp
  have e9:fld i rc 1=.hs rc 0 i i 1 false:=by cases i with|zero=> exact absurd rfl hn0|succ i=> rfl
  obtain⟨r1,r2,r3⟩:=hr hn0
  rw[zBj]
  simp(disch:=first|assumption|decide|omega)[f0,f1,f10,hAl,hadd,e2]
  refine ZhY.mk ?_
  refine⟨rfl,rc,?_,?_,?_,?_,?_,by simp,r3,r1,r2,hnb2,hfr⟩
  ·simp[f0]
  ·simp[f1]
  ·simp[f2]
  ·simp[f3]
  ·simp[f9,e9]
 |succ k ih=>
  intro i rc f nb g d hk hi f0 f1 f2 f3 f9 f10 hr hnb hnb2 hfr
  have hin:i < n:=by omega
  have e1:=add1 (a:=i) (by omega)
  have e2:ZmK .lss .i64 (i:Int) .i64 (n:Int)=some (.bool true):=by rw[ltN];simp[hin]
  have hrange:ints (List.range i)++[nv i]=ints (List.range (i+1)):=by rw[List.range_succ,←zzf];rfl
  rw[zBj]
  by_cases hi0:i=0
  ·have e9:fld i rc 1=.nils:=by rw[hi0];rfl
   rw[e9] at f9
   simp(disch:=first|assumption|decide|omega)[f0,f1,f9,f10,hAl,hadd,e1,e2]
   refine ih (i+1) nb _ _ _ _ (by omega) hin ?_ ?_ ?_ ?_ ?_ ?_ ?_ ?_ ?_ ?_
   ·simp[f0]
   ·simp[f1]
   ·simp[f2]
   ·simp[f3]
   ·simp[hi0,fld]
   ·simp
   ·intro _
    refine⟨hnb,by omega,?_⟩
    rw[←hrange,hi0]
    simp;rfl
   ·omega
   ·omega
   ·intro r hr'
    have:¬r=nb:=by omega
    simp(disch:=first|assumption|decide|omega)
    exact hfr r hr'
  ·obtain⟨r1,r2,r3⟩:=hr hi0
   have e9:fld i rc 1=.hs rc 0 i i 1 false:=by cases i with|zero=> exact absurd rfl hi0|succ i=> rfl
   rw[e9] at f9
   have hap:=ZG9 (nid:=nb) (r:=rc) (i:=i) (x:=(i:Int)) (cs:=ints (List.range i)) (by rw[Zu,List.length_range]) (by omega)
   rw[hrange] at hap
   simp(disch:=first|assumption|decide|omega)[f0,f1,f9,f10,hAl,hadd,e1,e2,r3,hap]
   refine ih (i+1) nb _ _ _ _ (by omega) hin ?_ ?_ ?_ ?_ ?_ ?_ ?_ ?_ ?_ ?_
   ·simp[f0]
   ·simp[f1]
   ·simp[f2]
   ·simp[f3]
   ·simp[fld]
   ·simp
   ·intro _
    refine⟨hnb,by omega,?_⟩
    simp
   ·omega
   ·omega
   ·intro r hr'
    have x1:¬r=nb:=by omega
    have x2:¬r=rc:=by omega
    simp(disch:=first|assumption|decide|omega)
    exact hfr r hr'
end
section
attribute [local simp] ld3 ld4 ZCB ZCG ZCN ZCP ZCK ZCH ZEs ZEr JR JS sz3 sz4 ZCx ZCz sp2 JO zK zL JY JX
attribute [-simp] zo zr zq zz zA zB zO max2 zaE zay zaA zbL zbO zbP zbQ zbG zbH zbJ zbI zbR zbS zbM zbN zbK zcC zcD
def bools (l:List Bool):List V:=l.map V.bool
theorem zwF (l:List Bool):(bools l).length=l.length:=List.length_map _
theorem zPC {l:List Bool} {i:Nat} {b:Bool} (h:l[i]?=some b):((bools l).drop i).head?=some (.bool b):=by
 rw[List.head?_drop];unfold bools;rw[List.getElem?_map,h];rfl
def UsB (g0:Nat→Blk) (nb0:Nat) (uv:V) (bl:List Bool):Prop:=(∃o,uv=.vs (bools bl) bl.length 1 o)∨∃r ex,uv=.hs r 0 bl.length bl.length 1 ex∧r < nb0∧g0 r=.row 0 (bools bl)
def ZDm (bl:List Bool) (i:Nat):Bool:=bl[i]?.getD false
theorem aa1 {a b:V} {l:List V}:ZmN (.iptr (a::b::l)) 1=some (.iptr (b::l)):=by rw[Zy (by simp)];rfl
attribute [local simp] aa1
theorem zCJ {l:List Key} {i:Nat} {p:Key} (h:l[i]?=some p):(prs l).drop (i * 2)=nv p.1::nv p.2::prs (l.drop (i+1)):=zCI h
theorem zEq:∀l:List Nat,V.idss (ints l)=[]
 |[]=> rfl
 |a::l=> by
  show V.ids (nv a)++V.idss (ints l)=[]
  rw[zEq l];rfl
theorem zRi {cls cls':List Nat} {rc n nb a b:Nat} {ex c:Bool} {get:Nat→Blk} (hn:cls.length=n) (hn2:n < 100000) (hrc:rc < nb) (hnb:nb < 1048576) (hg:get rc=.row 0 (ints cls)) (hj:ZEc cls a b=some (cls',c)):
 ZDd hs ks (EV Tryz.prog hs ks) get nb (some (.func 50 [.hs rc 0 n n 1 ex,nv a,nv b]))=some {v:=.bool c,rd:=[rc],wr:=[(rc,.row 0 (ints cls'))],nw:=[]}∨
 (cls'=cls∧ZDd hs ks (EV Tryz.prog hs ks) get nb (some (.func 50 [.hs rc 0 n n 1 ex,nv a,nv b]))=some {v:=.bool c,rd:=[rc],wr:=[],nw:=[]}):=by
 obtain⟨v,nb',g',d',hc,rfl,rfl,q1,q2,q3,q4⟩:=zEy (ex:=ex) (nb:=nb) (g:=at1 (fun _=> .resv) rc (get rc)) (d:=[]) hn hn2 hrc (by rw[zag];exact hg) hj
 have:=zPH (hint:=hs) (known:=ks) (E:=EV Tryz.prog hs ks) (get:=get) (r:=rc) (f:=50) (args:=[.hs rc 0 n n 1 ex,nv a,nv b]) rfl rfl hrc hnb hg (zEq cls) hc (fun x hx=> by
  rcases q3 x hx with h|h
  ·exact h
  ·cases h) q1
 by_cases hm:rc∈d'
 ·rw[if_pos hm] at this;exact .inl this
 ·rw[if_neg hm] at this;exact .inr ⟨q4 hm,this⟩
theorem CI.keep {m n nb0 rc nb:Nat} {av mv uv:V} {g0:Nat→Blk} {cls:List Nat} {f f':Nat→V} {g:Nat→Blk} (h:CI m av mv uv n nb0 g0 cls rc f nb g) (hf:f' 0=f 0∧f' 1=f 1∧f' 2=f 2∧f' 3=f 3∧f' 9=f 9):CI m av mv uv n nb0 g0 cls rc f' nb g:=
 ⟨hf.1.trans h.f0,hf.2.1.trans h.f1,hf.2.2.1.trans h.f2,hf.2.2.2.1.trans h.f3,hf.2.2.2.2.trans h.f9,h.len,h.hg,h.lo,h.lt,h.hnb,h.fr⟩
theorem CI.write {m n nb0 rc nb:Nat} {av mv uv:V} {g0:Nat→Blk} {cls cls':List Nat} {f f':Nat→V} {g g':Nat→Blk} (h:CI m av mv uv n nb0 g0 cls rc f nb g) (hf:f' 0=f 0∧f' 1=f 1∧f' 2=f 2∧f' 3=f 3∧f' 9=f 9) (hl:cls'.length=n) (hg:g' rc=.row 0 (ints cls')) (hfr:∀r,r≠rc→g' r=g r):CI m av mv uv n nb0 g0 cls' rc f' nb g':=
 ⟨hf.1.trans h.f0,hf.2.1.trans h.f1,hf.2.2.1.trans h.f2,hf.2.2.2.1.trans h.f3,hf.2.2.2.2.trans h.f9,hl,hg,h.lo,h.lt,h.hnb,fun r hr=> by
  have:=h.lo
  rw[hfr r (by omega),h.fr r hr]⟩
theorem zEv {cls cls':List Nat} {a b:Nat} {c:Bool} (h:ZEc cls a b=some (cls',c)):cls'.length=cls.length:=by
 unfold ZEc at h
 split at h
 ·split at h
  ·cases h;rfl
  ·cases h;rw[List.length_map]
 ·cases h
set_option maxHeartbeats 8000000 in
theorem zP7 {m n nb0 rc i:Nat} {av mv uv:V} {g0:Nat→Blk} {cls:List Nat} {bl:List Bool} {merges:List Key} {o:Own} {p:Key} (hn2:n < 1000) (hnb0:nb0 < 1000000) (hU:UsB g0 nb0 uv bl) (hbl:bl.length=merges.length) (hml:merges.length < 1000) (hmv:mv=.vs (prs merges) merges.length 2 o) (hp:merges[i]?=some p)
 {cls':List Nat} (hr:if ZDm bl i=true then∃c,ZEc cls p.1 p.2=some (cls',c) else cls'=cls) {f:Nat→V} {nb:Nat} {g:Nat→Blk} {d:List Nat} (hI:CI m av mv uv n nb0 g0 cls rc f nb g) (f11:f 11=nv i):
 ZhY 109 (fun e f' nb' g'=> e=.normal∧CI m av mv uv n nb0 g0 cls' rc f' nb' g'∧f' 11=nv i) (C 26 zsm (S 109 f [] (mkH nb g d))):=by
 have hil:=(List.getElem?_eq_some_iff.1 hp).1
 have hib:i < bl.length:=by omega
 have hbi:bl[i]?=some bl[i]:=List.getElem?_eq_getElem hib
 have hu:ZDm bl i=bl[i]:=by unfold ZDm;rw[hbi];rfl
 generalize bl[i]=b at hbi hu
 rw[hu] at hr
 have h1:=zPC hbi
 rw[zbG]
 refine ZhY.block (Q:=fun e f' nb' g'=> e=.normal∧CI m av mv uv n nb0 g0 cls' rc f' nb' g'∧f' 11=nv i) ?_ (fun f' nb' g' h=> by cases h.1) fun e f' nb' g' _ h=> h
 rw[zcC]
 refine ZhY.seq (P:=fun f' nb' g'=> CI m av mv uv n nb0 g0 cls rc f' nb' g'∧f' 11=nv i∧f' 36=.bool b) ?_ ?_
 ·have f3:=hI.f3
  rw[zcD]
  rcases hU with ⟨o',rfl⟩|⟨r,ex,rfl,hr1,hr2⟩
  ·simp(disch:=first|assumption|decide|omega)[f3,f11,h1]
   refine ZhY.mk ?_
   exact⟨rfl,hI.keep (by simp),by simp[f11],by simp⟩
  ·have hgr:g r=.row 0 (bools bl):=by rw[hI.fr r hr1];exact hr2
   have hrn:r < nb:=by have:=hI.lo;have:=hI.lt;omega
   have hib':i≤bl.length:=by omega
   simp(disch:=first|assumption|decide|omega)[f3,f11,h1,hgr,zwF,hib']
   refine ZhY.mk ?_
   exact⟨rfl,hI.keep (by simp),by simp[f11],by simp⟩
 rintro f nb g d ⟨hI,f11,f36⟩
 rw[zbI]
 cases b with
 |false=>
  rw[if_neg (by simp)] at hr
  subst hr
  simp(disch:=first|assumption|decide|omega)[f36]
  refine ZhY.mk ?_
  exact⟨rfl,hI,f11⟩
 |true=>
  rw[if_pos rfl] at hr
  obtain⟨c,hj⟩:=hr
  have f2:=hI.f2
  have f9:=hI.f9
  have hlt:=hI.lt
  have hnb:=hI.hnb
  have h4:=zCJ hp
  subst hmv
  have hlen':=zEv hj
  have hcl:=hI.len
  simp(disch:=first|assumption|decide|omega) only[Zk,f36,Zt]
  rw[zbJ]
  rcases zRi (ex:=false) (nb:=nb) (get:=(mkH nb g d).get) hI.len (by omega) hI.lt (by omega) (by rw[Zj hlt];exact hI.hg) hj with hd|⟨hd1,hd⟩
  ·simp(disch:=first|assumption|decide|omega)[f2,f9,f11,h4,hd]
   refine ZhY.mk ?_
   refine⟨rfl,hI.write (by simp) (by omega) (by simp) fun r hr=> ?_,by simp[f11]⟩
   simp[hr]
  ·subst hd1
   simp(disch:=first|assumption|decide|omega)[f2,f9,f11,h4,hd]
   refine ZhY.mk ?_
   exact⟨rfl,hI.keep (by simp),by simp[f11]⟩
set_option maxHeartbeats 4000000 in
theorem zP4 {m n nb0 rc:Nat} {av mv uv:V} {g0:Nat→Blk} {bl:List Bool} {merges:List Key} {o:Own} (hn2:n < 1000) (hnb0:nb0 < 1000000) (hU:UsB g0 nb0 uv bl) (hbl:bl.length=merges.length) (hml:merges.length < 1000) (hmv:mv=.vs (prs merges) merges.length 2 o):
 ∀(k i:Nat) (cls cls':List Nat) (f:Nat→V) (nb:Nat) (g:Nat→Blk) (d:List Nat),merges.length - i=k→i≤merges.length→ZFi (ZDm bl) (merges.drop i) i cls=some cls'→CI m av mv uv n nb0 g0 cls rc f nb g→f 11=nv i→
 ZhY 109 (fun e f' nb' g'=> e=.exit 2∧CI m av mv uv n nb0 g0 cls' rc f' nb' g') (C 26 zj2 (S 109 f [] (mkH nb g d))):=by
 have hMl:∀get nid,ZmL Tryz.prog false get nid .len [22] [mv]=some {v:=nv merges.length}:=fun get nid=> by rw[hmv];simp[ZmL,ZDQ,ZF7]
 intro k
 induction k with
 |zero=>
  intro i cls cls' f nb g d hk hi hr hI f11
  obtain rfl:i=merges.length:=by omega
  rw[List.drop_length] at hr
  cases hr
  have f2:=hI.f2
  have e2:ZmK .lss .i64 (merges.length:Int) .i64 (merges.length:Int)=some (.bool false):=by rw[ltN];simp
  rw[zxG]
  simp(disch:=first|assumption|decide|omega)[f2,f11,hMl,e2]
  refine ZhY.mk ?_
  exact⟨rfl,hI.keep (by simp)⟩
 |succ k ih=>
  intro i cls cls' f nb g d hk hi hr hI f11
  have hil:i < merges.length:=by omega
  have hp:merges[i]?=some merges[i]:=List.getElem?_eq_getElem hil
  have hdr:=List.drop_eq_getElem_cons hil
  generalize merges[i]=p at hp hdr
  rw[hdr] at hr
  obtain⟨c1,hc1,hr1⟩:∃c1,(if ZDm bl i=true then∃c,ZEc cls p.1 p.2=some (c1,c) else c1=cls)∧ZFi (ZDm bl) (merges.drop (i+1)) (i+1) c1=some cls':=by
   unfold ZFi at hr
   by_cases hu:ZDm bl i=true
   ·rw[if_pos hu] at hr
    split at hr
    ·rename_i c1 c hj
     exact⟨c1,by rw[if_pos hu];exact⟨c,hj⟩,hr⟩
    ·cases hr
   ·rw[if_neg hu] at hr
    exact⟨cls,by rw[if_neg hu],hr⟩
  have f2:=hI.f2
  have e1:=add1 (a:=i) (by omega)
  have e2:ZmK .lss .i64 (i:Int) .i64 (merges.length:Int)=some (.bool true):=by rw[ltN];simp[hil]
  rw[zxG]
  simp(disch:=first|assumption|decide|omega)[f2,f11,hMl,e2]
  refine ZhY.seq (P:=fun f' nb' g'=> CI m av mv uv n nb0 g0 c1 rc f' nb' g'∧f' 11=nv (i+1)) ?_ ?_
  ·refine ZhY.seq (P:=fun f' nb' g'=> CI m av mv uv n nb0 g0 c1 rc f' nb' g'∧f' 11=nv i) (zP7 hn2 hnb0 hU hbl hml hmv hp hc1 (hI.keep (by simp)) (by simp[f11])) ?_
   rintro f nb g d ⟨hI,f11⟩
   rw[zbH]
   simp(disch:=first|assumption|decide|omega)[f11,e1]
   refine ZhY.mk ?_
   exact⟨rfl,hI.keep (by simp),by simp⟩
  ·rintro f nb g d ⟨hI,f11⟩
   exact ih (i+1) c1 cls' f nb g d (by omega) hil hr1 hI f11
end
section
attribute [local simp] ld3 ld4 ZCB ZCG ZCN ZCP ZCK ZCH ZEs ZEr JR JS sz3 sz4 ZCx ZCz sp2 JO zK zL JY JX aa1
attribute [-simp] zo zr zq zz zA zB zO max2 zaE zay zaA zbL zbO zbP zbQ zbG zbH zbJ zbI zbR zbS zdF zbM zbN zbK zcC zcD zdE zdz zdA zdC zbp zbt zbu zbv zbo zbq zbr zbs zdD zdB
def ZHP (m i j:Nat) (p q:Key) (cls:List Nat) (more:Bool) (cls':List Nat) (more':Bool):Prop:=
 ∃a b c d:Nat,cls[p.1]?=some a∧cls[q.1]?=some b∧cls[p.2]?=some c∧cls[q.2]?=some d∧if a=b∧c=d then∃bb,ZEc cls (m+i) (m+j)=some (cls',bb)∧more'=(bb||more) else cls'=cls∧more'=more
set_option maxHeartbeats 8000000 in
theorem zP6 {m n nb0 rc i j:Nat} {av mv uv:V} {g0:Nat→Blk} {cls cls':List Nat} {more more':Bool} {apps:List Key} {o:Own} {p q:Key} (hn2:n < 1000) (hnb0:nb0 < 1000000) (hm:m < 1000) (hal:apps.length < 1000) (hav:av=.vs (prs apps) apps.length 2 o) (hp:apps[i]?=some p) (hq:apps[j]?=some q)
 (hr:ZHP m i j p q cls more cls' more') {f:Nat→V} {nb:Nat} {g:Nat→Blk} {d:List Nat} (hI:CI m av mv uv n nb0 g0 cls rc f nb g) (f12:f 12=.bool more) (f13:f 13=nv i) (f14:f 14=nv j):
 ZhY 109 (fun e f' nb' g'=> e=.normal∧CI m av mv uv n nb0 g0 cls' rc f' nb' g'∧f' 12=.bool more'∧f' 13=nv i∧f' 14=nv j) (C 26 ztR (S 109 f [] (mkH nb g d))):=by
 obtain⟨a,b,c,e,c1,c2,c3,c4,hr⟩:=hr
 have hil:=(List.getElem?_eq_some_iff.1 hp).1
 have hjl:=(List.getElem?_eq_some_iff.1 hq).1
 have hcl:=hI.len
 have z1:=(List.getElem?_eq_some_iff.1 c1).1
 have z2:=(List.getElem?_eq_some_iff.1 c2).1
 have z3:=(List.getElem?_eq_some_iff.1 c3).1
 have z4:=(List.getElem?_eq_some_iff.1 c4).1
 have y1:p.1 < n:=by omega
 have y2:q.1 < n:=by omega
 have y3:p.2 < n:=by omega
 have y4:q.2 < n:=by omega
 have x1:p.1≤n:=by omega
 have x2:q.1≤n:=by omega
 have x3:p.2≤n:=by omega
 have x4:q.2≤n:=by omega
 have h1:=Zp c1
 have h2:=Zp c2
 have h3:=Zp c3
 have h4:=Zp c4
 have hpd:=zCJ hp
 have hqd:=zCJ hq
 have g1:=hI.f1
 have g9:=hI.f9
 have hg:=hI.hg
 have hlt:=hI.lt
 subst hav
 rw[zbP]
 refine ZhY.block (Q:=fun e f' nb' g'=> e=.normal∧CI m (.vs (prs apps) apps.length 2 o) mv uv n nb0 g0 cls' rc f' nb' g'∧f' 12=.bool more'∧f' 13=nv i∧f' 14=nv j) ?_ (fun f' nb' g' h=> by cases h.1) fun e f' nb' g' _ h=> h
 rw[zdE]
 refine ZhY.seq (P:=fun f' nb' g'=> CI m (.vs (prs apps) apps.length 2 o) mv uv n nb0 g0 cls rc f' nb' g'∧f' 12=.bool more∧f' 13=nv i∧f' 14=nv j∧f' 96=.bool (decide (a=b∧c=e))) ?_ ?_
 ·rw[zbR]
  by_cases hab:a=b
  ·have w1:ZmK .eql .i64 (a:Int) .i64 (b:Int)=some (.bool true):=by rw[eqN];simp[hab]
   by_cases hce:c=e
   ·have w2:ZmK .eql .i64 (c:Int) .i64 (e:Int)=some (.bool true):=by rw[eqN];simp[hce]
    simp(disch:=first|assumption|decide|omega)[g1,g9,f13,f14,hpd,hqd,hg,h1,h2,h3,h4,x1,x2,x3,x4,Zu,hcl,w1,w2]
    refine ZhY.mk ?_
    exact⟨rfl,hI.keep (by simp),by simp[f12],by simp[f13],by simp[f14],by simp[hab,hce]⟩
   ·have w2:ZmK .eql .i64 (c:Int) .i64 (e:Int)=some (.bool false):=by rw[eqN];simp[hce]
    simp(disch:=first|assumption|decide|omega)[g1,g9,f13,f14,hpd,hqd,hg,h1,h2,h3,h4,x1,x2,x3,x4,Zu,hcl,w1,w2]
    refine ZhY.mk ?_
    exact⟨rfl,hI.keep (by simp),by simp[f12],by simp[f13],by simp[f14],by simp[hce]⟩
  ·have w1:ZmK .eql .i64 (a:Int) .i64 (b:Int)=some (.bool false):=by rw[eqN];simp[hab]
   simp(disch:=first|assumption|decide|omega)[g1,g9,f13,f14,hpd,hqd,hg,h1,h2,h3,h4,x1,x2,x3,x4,Zu,hcl,w1]
   refine ZhY.mk ?_
   exact⟨rfl,hI.keep (by simp),by simp[f12],by simp[f13],by simp[f14],by simp[hab]⟩
 rintro f nb g d ⟨hI,f12,f13,f14,f96⟩
 rw[zbS]
 by_cases hc:a=b∧c=e
 ·rw[if_pos hc] at hr
  obtain⟨bb,hj,rfl⟩:=hr
  rw[decide_eq_true hc] at f96
  simp(disch:=first|assumption|decide|omega) only[Zk,f96,Zt]
  have f0:=hI.f0
  have f9:=hI.f9
  obtain⟨ti,hti,eti⟩:∃ti,ZmK .add .i64 (m:Int) .i64 (i:Int)=some (nv ti)∧ti=m+i:=⟨_,addN (by omega),rfl⟩
  obtain⟨tj,htj,etj⟩:∃tj,ZmK .add .i64 (m:Int) .i64 (j:Int)=some (nv tj)∧tj=m+j:=⟨_,addN (by omega),rfl⟩
  rw[←eti,←etj] at hj
  obtain⟨v,nb',g',d',hcall,rfl,rfl,q1,q2,_⟩:=zEy (ex:=false) (nb:=nb) (d:=d) hI.len (by omega) hI.lt hI.hg hj
  rw[←zwH (hint:=hs) (known:=ks) rfl] at hcall
  have hl':=zEv hj
  have hlc:=hI.len
  rw[zdF]
  cases bb with
  |true=>
   simp(disch:=first|assumption|decide|omega)[f0,f9,f12,f13,f14,hti,htj,hcall]
   refine ZhY.mk ?_
   exact⟨rfl,hI.write (by simp) (by omega) q1 q2,by simp,by simp[f13],by simp[f14]⟩
  |false=>
   simp(disch:=first|assumption|decide|omega)[f0,f9,f12,f13,f14,hti,htj,hcall]
   refine ZhY.mk ?_
   exact⟨rfl,hI.write (by simp) (by omega) q1 q2,by simp,by simp[f13],by simp[f14]⟩
 ·rw[if_neg hc] at hr
  obtain⟨rfl,rfl⟩:=hr
  rw[decide_eq_false hc] at f96
  simp(disch:=first|assumption|decide|omega)[f96]
  refine ZhY.mk ?_
  exact⟨rfl,hI,f12,f13,f14⟩
theorem zRb {m i:Nat} {p q:Key} {l:List Key} {k:Nat} {cls:List Nat} {more:Bool} {r:List Nat×Bool} (h:ZEv m i p (q::l) k cls more=some r):∃c1 b1,ZHP m i k p q cls more c1 b1∧ZEv m i p l (k+1) c1 b1=some r:=by
 unfold ZEv at h
 split at h
 case h_2=> cases h
 rename_i a b h1 h2
 split at h
 case h_2=> cases h
 rename_i c d h3 h4
 split at h
 ·rename_i hc
  split at h
  ·rename_i c1 bb hj
   exact⟨c1,bb||more,⟨a,b,c,d,h1,h2,h3,h4,by rw[if_pos hc];exact⟨bb,hj,rfl⟩⟩,h⟩
  ·cases h
 ·rename_i hc
  exact⟨cls,more,⟨a,b,c,d,h1,h2,h3,h4,by rw[if_neg hc];exact⟨rfl,rfl⟩⟩,h⟩
section
variable {m n nb0 rc:Nat} {av mv uv:V} {g0:Nat→Blk} {apps:List Key} {o:Own}
set_option maxHeartbeats 4000000 in
theorem zP2 (hn2:n < 1000) (hnb0:nb0 < 1000000) (hm:m < 1000) (hal:apps.length < 1000) (hav:av=.vs (prs apps) apps.length 2 o) {i:Nat} {p:Key} (hp:apps[i]?=some p) {cls':List Nat} {more':Bool}:
 ∀(k j:Nat) (cls:List Nat) (more:Bool) (f:Nat→V) (nb:Nat) (g:Nat→Blk) (d:List Nat),i - j=k→j≤i→ZEv m i p ((apps.take i).drop j) j cls more=some (cls',more')→CI m av mv uv n nb0 g0 cls rc f nb g→f 12=.bool more→f 13=nv i→f 14=nv j→
 ZhY 109 (fun e f' nb' g'=> e=.exit 8∧CI m av mv uv n nb0 g0 cls' rc f' nb' g'∧f' 12=.bool more'∧f' 13=nv i) (C 26 zj5 (S 109 f [] (mkH nb g d))):=by
 have hil:=(List.getElem?_eq_some_iff.1 hp).1
 intro k
 induction k with
 |zero=>
  intro j cls more f nb g d hk hj hr hI f12 f13 f14
  obtain rfl:j=i:=by omega
  rw[List.drop_of_length_le (by rw[List.length_take];omega)] at hr
  cases hr
  have e2:ZmK .lss .i64 (j:Int) .i64 (j:Int)=some (.bool false):=by rw[ltN];simp
  rw[zKe]
  simp(disch:=first|assumption|decide|omega)[f13,f14,e2]
  refine ZhY.mk ?_
  exact⟨rfl,hI.keep (by simp),by simp[f12],by simp[f13]⟩
 |succ k ih=>
  intro j cls more f nb g d hk hj hr hI f12 f13 f14
  have hji:j < i:=by omega
  have hjt:j < (apps.take i).length:=by rw[List.length_take];omega
  have hq:apps[j]?=some (apps.take i)[j]:=by
   have:(apps.take i)[j]?=some (apps.take i)[j]:=List.getElem?_eq_getElem hjt
   rw[List.getElem?_take_of_lt hji] at this
   exact this
  rw[List.drop_eq_getElem_cons hjt] at hr
  generalize (apps.take i)[j]=q at hq hr
  obtain⟨c1,b1,hpr,hr1⟩:=zRb hr
  have e1:=add1 (a:=j) (by omega)
  have e2:ZmK .lss .i64 (j:Int) .i64 (i:Int)=some (.bool true):=by rw[ltN];simp[hji]
  rw[zKe]
  simp(disch:=first|assumption|decide|omega)[f13,f14,e2]
  refine ZhY.seq (P:=fun f' nb' g'=> CI m av mv uv n nb0 g0 c1 rc f' nb' g'∧f' 12=.bool b1∧f' 13=nv i∧f' 14=nv (j+1)) ?_ ?_
  ·rw[zdD]
   refine ZhY.seq (P:=fun f' nb' g'=> CI m av mv uv n nb0 g0 c1 rc f' nb' g'∧f' 12=.bool b1∧f' 13=nv i∧f' 14=nv j) (zP6 hn2 hnb0 hm hal hav hp hq hpr (hI.keep (by simp)) (by simp[f12]) (by simp[f13]) (by simp[f14])) ?_
   rintro f nb g d ⟨hI,f12,f13,f14⟩
   rw[zbQ]
   simp(disch:=first|assumption|decide|omega)[f14,e1]
   refine ZhY.mk ?_
   exact⟨rfl,hI.keep (by simp),by simp[f12],by simp[f13],by simp⟩
  ·rintro f nb g d ⟨hI,f12,f13,f14⟩
   exact ih (j+1) c1 b1 f nb g d (by omega) hji hr1 hI f12 f13 f14
set_option maxHeartbeats 4000000 in
theorem zP5 (hn2:n < 1000) (hnb0:nb0 < 1000000) (hm:m < 1000) (hal:apps.length < 1000) (hav:av=.vs (prs apps) apps.length 2 o) {cls':List Nat} {more':Bool}:
 ∀(k i:Nat) (cls:List Nat) (more:Bool) (f:Nat→V) (nb:Nat) (g:Nat→Blk) (d:List Nat),apps.length - i=k→i≤apps.length→ZFC m apps (apps.drop i) i cls more=some (cls',more')→CI m av mv uv n nb0 g0 cls rc f nb g→f 12=.bool more→f 13=nv i→
 ZhY 109 (fun e f' nb' g'=> e=.exit 6∧CI m av mv uv n nb0 g0 cls' rc f' nb' g'∧f' 12=.bool more') (C 26 zj4 (S 109 f [] (mkH nb g d))):=by
 have hAl:∀get nid,ZmL Tryz.prog false get nid .len [22] [av]=some {v:=nv apps.length}:=fun get nid=> by rw[hav];simp[ZmL,ZDQ,ZF7]
 intro k
 induction k with
 |zero=>
  intro i cls more f nb g d hk hi hr hI f12 f13
  obtain rfl:i=apps.length:=by omega
  rw[List.drop_length] at hr
  cases hr
  have f1:=hI.f1
  have e2:ZmK .lss .i64 (apps.length:Int) .i64 (apps.length:Int)=some (.bool false):=by rw[ltN];simp
  rw[zxK]
  simp(disch:=first|assumption|decide|omega)[f1,f13,hAl,e2]
  refine ZhY.mk ?_
  exact⟨rfl,hI.keep (by simp),by simp[f12]⟩
 |succ k ih=>
  intro i cls more f nb g d hk hi hr hI f12 f13
  have hil:i < apps.length:=by omega
  have hp:apps[i]?=some apps[i]:=List.getElem?_eq_getElem hil
  rw[List.drop_eq_getElem_cons hil] at hr
  generalize apps[i]=p at hp hr
  unfold ZFC at hr
  split at hr
  case h_2=> cases hr
  rename_i c1 b1 hin
  have f1:=hI.f1
  have e1:=add1 (a:=i) (by omega)
  have e2:ZmK .lss .i64 (i:Int) .i64 (apps.length:Int)=some (.bool true):=by rw[ltN];simp[hil]
  rw[zxK]
  simp(disch:=first|assumption|decide|omega)[f1,f13,hAl,e2]
  refine ZhY.seq (P:=fun f' nb' g'=> CI m av mv uv n nb0 g0 c1 rc f' nb' g'∧f' 12=.bool b1∧f' 13=nv (i+1)) ?_ ?_
  ·rw[zdB]
   refine ZhY.seq (P:=fun f' nb' g'=> CI m av mv uv n nb0 g0 c1 rc f' nb' g'∧f' 12=.bool b1∧f' 13=nv i) ?_ ?_
   ·rw[zbM]
    refine ZhY.block (Q:=fun e f' nb' g'=> e=.normal∧CI m av mv uv n nb0 g0 c1 rc f' nb' g'∧f' 12=.bool b1∧f' 13=nv i) ?_ (fun f' nb' g' h=> by cases h.1) fun e f' nb' g' _ h=> h
    rw[zdC]
    simp(disch:=first|assumption|decide|omega)
    rw[zbO]
    refine ZhY.block (Q:=fun e f' nb' g'=> e=.exit 8∧CI m av mv uv n nb0 g0 c1 rc f' nb' g'∧f' 12=.bool b1∧f' 13=nv i) (zP2 hn2 hnb0 hm hal hav hp i 0 cls more _ _ _ _ rfl (Nat.zero_le _) hin (hI.keep (by simp)) (by simp[f12]) (by simp[f13]) (by simp)) ?_ ?_
    ·rintro f' nb' g' ⟨_,h⟩;exact⟨rfl,h⟩
    ·rintro e f' nb' g' hne ⟨rfl,_⟩;exact absurd rfl hne
   rintro f nb g d ⟨hI,f12,f13⟩
   rw[zbN]
   simp(disch:=first|assumption|decide|omega)[f13,e1]
   refine ZhY.mk ?_
   exact⟨rfl,hI.keep (by simp),by simp[f12],by simp⟩
  ·rintro f nb g d ⟨hI,f12,f13⟩
   exact ih (i+1) c1 b1 f nb g d (by omega) hil hr hI f12 f13
set_option maxHeartbeats 4000000 in
theorem zP8 (hn2:n < 1000) (hnb0:nb0 < 1000000) (hm:m < 1000) (hal:apps.length < 1000) (hav:apps≠[]→∃o,av=.vs (prs apps) apps.length 2 o) (hAl:∀get nid,ZmL Tryz.prog false get nid .len [22] [av]=some {v:=nv apps.length}) {cls':List Nat}:
 ∀(fu:Nat) (cls:List Nat) (f:Nat→V) (nb:Nat) (g:Nat→Blk) (d:List Nat),ZFY m apps fu cls=some cls'→CI m av mv uv n nb0 g0 cls rc f nb g→f 12=.bool true→
 ZhY 109 (fun e f' nb' g'=> e=.exit 4∧CI m av mv uv n nb0 g0 cls' rc f' nb' g') (C 26 zj3 (S 109 f [] (mkH nb g d))):=by
 have round:∀(cls c1:List Nat) (b1:Bool) (f:Nat→V) (nb:Nat) (g:Nat→Blk) (d:List Nat),ZFC m apps apps 0 cls false=some (c1,b1)→CI m av mv uv n nb0 g0 cls rc f nb g→
  ZhY 109 (fun e f' nb' g'=> e=.normal∧CI m av mv uv n nb0 g0 c1 rc f' nb' g'∧f' 12=.bool b1) (C 26 zsW (S 109 f [] (mkH nb g d))):=by
  intro cls c1 b1 f nb g d hr hI
  rw[zbK]
  refine ZhY.block (Q:=fun e f' nb' g'=> e=.normal∧CI m av mv uv n nb0 g0 c1 rc f' nb' g'∧f' 12=.bool b1) ?_ (fun f' nb' g' h=> by cases h.1) fun e f' nb' g' _ h=> h
  rw[zdz]
  refine ZhY.seq (P:=fun f' nb' g'=> CI m av mv uv n nb0 g0 cls rc f' nb' g'∧f' 12=.bool false) ?_ ?_
  ·simp(disch:=first|assumption|decide|omega)
   refine ZhY.mk ?_
   exact⟨rfl,hI.keep (by simp),by simp⟩
  rintro f nb g d ⟨hI,f12⟩
  rw[zdA]
  simp(disch:=first|assumption|decide|omega)
  rw[zbL]
  refine ZhY.block (Q:=fun e f' nb' g'=> e=.exit 6∧CI m av mv uv n nb0 g0 c1 rc f' nb' g'∧f' 12=.bool b1) ?_ ?_ ?_
  ·by_cases hz:apps=[]
   ·rw[hz] at hr
    cases hr
    have f1:=hI.f1
    rw[hz] at hAl
    have e2:ZmK .lss .i64 0 .i64 0=some (.bool false):=rfl
    rw[zxK]
    simp(disch:=first|assumption|decide|omega)[f1,hAl,e2]
    refine ZhY.mk ?_
    exact⟨rfl,hI.keep (by simp),by simp[f12]⟩
   ·obtain⟨o,ho⟩:=hav hz
    exact zP5 hn2 hnb0 hm hal ho apps.length 0 cls false _ _ _ _ rfl (Nat.zero_le _) hr (hI.keep (by simp)) (by simp[f12]) (by simp)
  ·rintro f' nb' g' ⟨_,h⟩;exact⟨rfl,h⟩
  ·rintro e f' nb' g' hne ⟨rfl,_⟩;exact absurd rfl hne
 intro fu
 induction fu with
 |zero=> intro cls f nb g d h;cases h
 |succ fu ih=>
  intro cls f nb g d h hI f12
  unfold ZFY at h
  split at h
  case h_2=> cases h
  rename_i c1 b1 hr
  rw[zxI]
  simp(disch:=first|assumption|decide|omega)[f12]
  refine ZhY.seq (P:=fun f' nb' g'=> CI m av mv uv n nb0 g0 c1 rc f' nb' g'∧f' 12=.bool b1) (round cls c1 b1 _ _ _ _ hr (hI.keep (by simp))) ?_
  rintro f nb g d ⟨hI,f12⟩
  cases b1 with
  |true=>
   rw[if_pos rfl] at h
   exact ih c1 f nb g d h hI f12
  |false=>
   rw[if_neg (by simp)] at h
   cases h
   rw[zxI]
   simp(disch:=first|assumption|decide|omega)[f12]
   refine ZhY.mk ?_
   exact⟨rfl,hI.keep (by simp)⟩
end
end
end
section
open Go Go.Ae
attribute [local simp] ZCl ZF JC JB ZR ZS Zo ZE Jx Jw Jq Zw Zk S_h ZH Zz ZM ZK ZL zt ZO ZN Z7 Zj Jp Z8 JD JE Zt Z0 ZCD ZP ZQ zq zB zz zA zo Z5 zr zO Jy Jz JG JH Z1 Z2 Z3 Z4 ZI Zy JF ZT ZW ZB ZA ZY ZX ZZ ZnB Zi3 V.ones Je Jd Jh Jg Jf Ji Jn Jo Jm ZV Jk Jl Jj zK ZU zL JA Jt Js Ju Jr Jv Ja Jb Jc Z9 max2 cond_true cond_false List.nil_append List.cons_append zA5 zxC zxp zHu zHv zjW zjY zIS zIP zIQ zIR zI3 zJk zKc zKa zKb zKd zJC zq0 zqD zHL zHw zHx zHD zHE zHF zHG zHH zHI zHJ zHK zHy zHz zHA zHB zHC zHM zHN zqF zqJ zHQ zHO zHP zqN zHS zHT zHZ zHU zHV zHW zHX zHY zH0 zH1 zH2 zxr zqT zxt zH9 zH7 zH8 zqW zIa zIb zIg zId zIe zIf zIh zIi zIj zIc zIk zIq zIL zIr zIs zID zIE zIF zIG zIH zII zIJ zIK zIt zIu zIv zIw zIx zIy zIz zIA zIB zIC zIM zIN zIV zIT zIU zIW zIO zIp zIl zIm zIn zIo zqU zH3 zH4 zH5 zH6 zqL zq7 zIZ zIX zIY zra zI1 zI2 zI9 zI4 zI5 zI6 zI7 zI8 zJa zJb zJc zxx zrg zxz zJj zJh zJi zrj zJl zJm zJr zJo zJp zJq zJs zJt zJu zJn zJv zJB zJY zJD zJE zJP zJR zJS zJT zJU zJV zJW zJX zJF zJG zJH zJI zJJ zJK zJL zJM zJN zJO zJQ zJZ zJ0 zJ4 zJ2 zJ3 zJ5 zJ1 zJA zJw zJx zJy zJz zrh zJd zJe zJf zJg zq9 zJ8 zJ6 zJ7 zJ9 zxT zxS zxP zBk zBl zdJ zdK zBP zBQ zBR zBS zdL zdM zBV zBT zBU zdO zBW zBm zBs zBo zBp zBq zBr zBt zBv zBx zBn zdI zBI zBD zBE zBF zBG zBH zBC zBy zBz zBA zBB zdN zBM zBJ zBK zBL zBO
section
attribute [local simp] ld3 ld4 ZCB ZCG ZCN ZCP ZCK ZCH ZEs ZEr JR JS sz3 sz4 ZCx ZCz sp2 JO zK zL JY JX aa1
attribute [-simp] zo zr zq zz zA zB zO max2 zqN zra zqT zqU zrg zrh zdO zjW zq0 zqF zqJ zqL zq7 zq9 zqW zrj zjY zqD zdL zdM zdN zdK zdJ zdI
def ZDU (a n:Int):Bool:=decide (0≤a) && decide (a < n)
theorem zO7 (p:PrI) (n:Int):wit p n=(ZDU p.1 n && ZDU p.2 n):=by
 unfold wit ZDU
 rw[Bool.eq_iff_iff]
 simp only[Bool.and_eq_true,decide_eq_true_eq]
 omega
theorem io0:ZmK .add .i64 0 .i64 1=some (.int .i64 1):=rfl
theorem io1:ZmK .add .i64 1 .i64 1=some (.int .i64 2):=rfl
theorem il0:ZmK .lss .i64 0 .i64 2=some (.bool true):=rfl
theorem il1:ZmK .lss .i64 1 .i64 2=some (.bool true):=rfl
theorem il2:ZmK .lss .i64 2 .i64 2=some (.bool false):=rfl
set_option maxHeartbeats 4000000 in
theorem zYD {t L:Int} {l:List PrI} {i:Nat} {o:Own} {p:PrI} (hp:l[i]?=some p) (hL:ZmK .add .i64 t .i64 (i:Int)=some (.int .i64 L)) {f:Nat→V} {h:H} (f0:f 0=.int .i64 t) (f1:f 1=.vs (ZC1 l) l.length 2 o) (f7:f 7=nv i) (f8:f 8=.int .i64 0):
 ZCv 86 h (fun e f'=> if wit p L=true then e=.exit 2∧f' 0=f 0∧f' 1=f 1∧f' 2=f 2∧f' 7=f 7 else e=.ret∧f' 6=.int .i64 2) (C 25 zjZ (S 86 f [] h)):=by
 have hil:=(List.getElem?_eq_some_iff.1 hp).1
 have hd:=zyo hp
 have lt0:∀a:Int,ZmK .lss .i64 a .i64 0=some (.bool (decide (a < 0))):=fun a=> by rw[zo]
 have geL:∀a:Int,ZmK .geq .i64 a .i64 L=some (.bool (decide (L≤a))):=fun a=> by rw[zO]
 rw[zO7]
 have bad:∀{a:Int},ZDU a L=false→a < 0∨(¬a < 0∧L≤a):=fun {a} h=> by
  unfold ZDU at h
  simp only[Bool.and_eq_false_iff,decide_eq_false_iff_not] at h
  omega
 have good:∀{a:Int},ZDU a L=true→¬a < 0∧¬L≤a:=fun {a} h=> by
  unfold ZDU at h
  simp only[Bool.and_eq_true,decide_eq_true_eq] at h
  omega
 rw[zAQ]
 cases h1:ZDU p.1 L with
 |false=>
  rcases bad h1 with q|⟨q,q'⟩
  ·simp(disch:=first|assumption|decide|omega)[f0,f1,f7,f8,il0,hd,lt0,geL,q]
   refine ZCv.mk ?_
   exact⟨rfl,by simp⟩
  ·simp(disch:=first|assumption|decide|omega)[f0,f1,f7,f8,il0,hd,lt0,geL,q,q',hL]
   refine ZCv.mk ?_
   exact⟨rfl,by simp⟩
 |true=>
  obtain⟨q1,q2⟩:=good h1
  simp(disch:=first|assumption|decide|omega)[f0,f1,f7,f8,il0,hd,lt0,geL,q1,q2,hL,io0]
  rw[zAQ]
  cases h2:ZDU p.2 L with
  |false=>
   rcases bad h2 with q|⟨q,q'⟩
   ·simp(disch:=first|assumption|decide|omega)[f0,f1,f7,f8,il1,hd,lt0,geL,q]
    refine ZCv.mk ?_
    exact⟨rfl,by simp⟩
   ·simp(disch:=first|assumption|decide|omega)[f0,f1,f7,f8,il1,hd,lt0,geL,q,q',hL]
    refine ZCv.mk ?_
    exact⟨rfl,by simp⟩
  |true=>
   obtain⟨q3,q4⟩:=good h2
   simp(disch:=first|assumption|decide|omega)[f0,f1,f7,f8,il1,hd,lt0,geL,q3,q4,hL,io1]
   rw[zAQ]
   simp(disch:=first|assumption|decide|omega)[f0,f1,f7,f8,il2]
   refine ZCv.mk ?_
   simp[f0,f1,f7]
set_option maxHeartbeats 4000000 in
theorem zYE {t L:Int} {l:List PrI} {i na:Nat} {av:V} {o:Own} {p:PrI} (hp:l[i]?=some p) (hAl:∀get nid,ZmL Tryz.prog false get nid .len [22] [av]=some {v:=nv na}) (hL:ZmK .add .i64 t .i64 (na:Int)=some (.int .i64 L)) {f:Nat→V} {h:H} (f0:f 0=.int .i64 t) (f1:f 1=av) (f2:f 2=.vs (ZC1 l) l.length 2 o) (f9:f 9=nv i) (f10:f 10=.int .i64 0):
 ZCv 86 h (fun e f'=> if wit p L=true then e=.exit 6∧f' 0=f 0∧f' 1=f 1∧f' 2=f 2∧f' 9=f 9 else e=.ret∧f' 6=.int .i64 2) (C 25 zj1 (S 86 f [] h)):=by
 have hil:=(List.getElem?_eq_some_iff.1 hp).1
 have hd:=zyo hp
 have lt0:∀a:Int,ZmK .lss .i64 a .i64 0=some (.bool (decide (a < 0))):=fun a=> by rw[zo]
 have geL:∀a:Int,ZmK .geq .i64 a .i64 L=some (.bool (decide (L≤a))):=fun a=> by rw[zO]
 rw[zO7]
 have bad:∀{a:Int},ZDU a L=false→a < 0∨(¬a < 0∧L≤a):=fun {a} h=> by
  unfold ZDU at h
  simp only[Bool.and_eq_false_iff,decide_eq_false_iff_not] at h
  omega
 have good:∀{a:Int},ZDU a L=true→¬a < 0∧¬L≤a:=fun {a} h=> by
  unfold ZDU at h
  simp only[Bool.and_eq_true,decide_eq_true_eq] at h
  omega
 rw[zAX]
 cases h1:ZDU p.1 L with
 |false=>
  rcases bad h1 with q|⟨q,q'⟩
  ·simp(disch:=first|assumption|decide|omega)[f0,f1,f2,f9,f10,il0,hd,lt0,geL,q]
   refine ZCv.mk ?_
   exact⟨rfl,by simp⟩
  ·simp(disch:=first|assumption|decide|omega)[f0,f1,f2,f9,f10,il0,hd,lt0,geL,q,q',hL,hAl]
   refine ZCv.mk ?_
   exact⟨rfl,by simp⟩
 |true=>
  obtain⟨q1,q2⟩:=good h1
  simp(disch:=first|assumption|decide|omega)[f0,f1,f2,f9,f10,il0,hd,lt0,geL,q1,q2,hL,hAl,io0]
  rw[zAX]
  cases h2:ZDU p.2 L with
  |false=>
   rcases bad h2 with q|⟨q,q'⟩
   ·simp(disch:=first|assumption|decide|omega)[f0,f1,f2,f9,f10,il1,hd,lt0,geL,q]
    refine ZCv.mk ?_
    exact⟨rfl,by simp⟩
   ·simp(disch:=first|assumption|decide|omega)[f0,f1,f2,f9,f10,il1,hd,lt0,geL,q,q',hL,hAl]
    refine ZCv.mk ?_
    exact⟨rfl,by simp⟩
  |true=>
   obtain⟨q3,q4⟩:=good h2
   simp(disch:=first|assumption|decide|omega)[f0,f1,f2,f9,f10,il1,hd,lt0,geL,q3,q4,hL,hAl,io1]
   rw[zAX]
   simp(disch:=first|assumption|decide|omega)[f0,f1,f2,f9,f10,il2]
   refine ZCv.mk ?_
   simp[f0,f1,f2,f9]
end
section
attribute [local simp] ld3 ld4 ZCB ZCG ZCN ZCP ZCK ZCH ZEs ZEr JR JS sz3 sz4 ZCx ZCz sp2 JO zK zL JY JX aa1
attribute [-simp] zo zr zq zz zA zB zO max2 zqN zra zqT zqU zrg zrh zdO zjW zq0 zqF zqJ zqL zq7 zq9 zqW zrj zjY zqD zdL zdM zdN zdK zdJ zdI zxt zxz zxr zxx
set_option maxHeartbeats 4000000 in
theorem zYF {t:Int} (ht0:0≤t) (ht:t≤16) {l:List PrI} {av mv:V} (hA:InS av l) (hL:l.length≤16):∀(k i:Nat) (f:Nat→V) (h:H),l.length - i=k→i≤l.length→f 0=.int .i64 t→f 1=av→f 2=mv→f 7=nv i→
 ZCv 86 h (fun e f'=> if ZDk t (l.drop i) i=true then e=.exit 0∧f' 0=.int .i64 t∧f' 1=av∧f' 2=mv else e=.ret∧f' 6=.int .i64 2) (C 25 zjX (S 86 f [] h)):=by
 have hlen:=ZC4 hA
 intro k
 induction k with
 |zero=>
  intro i f h hk hi f0 f1 f2 f7
  obtain rfl:i=l.length:=by omega
  have e2:ZmK .lss .i64 (l.length:Int) .i64 (l.length:Int)=some (.bool false):=by rw[ltN];simp
  rw[zHR]
  simp(disch:=first|assumption|decide|omega)[f0,f1,f7,hlen,e2]
  refine ZCv.mk ?_
  simp[ZDk,f0,f1,f2]
 |succ k ih=>
  intro i f h hk hi f0 f1 f2 f7
  have hil:i < l.length:=by omega
  have hg:l[i]?=some l[i]:=List.getElem?_eq_getElem hil
  have hd:=List.drop_eq_getElem_cons hil
  generalize l[i]=p at hg hd
  obtain⟨o,rfl⟩:=hA.vs (fun hh=> by rw[hh] at hil;cases hil)
  have hadd:ZmK .add .i64 t .i64 (i:Int)=some (.int .i64 (t+i)):=by rw[zq,za4 (by omega) (by omega)]
  have e1:=add1 (a:=i) (by omega)
  have e2:ZmK .lss .i64 (i:Int) .i64 (l.length:Int)=some (.bool true):=by rw[ltN];simp[hil]
  have hdd:ZDk t (l.drop i) i=(wit p (t+i) && ZDk t (l.drop (i+1)) (i+1)):=by rw[hd];rfl
  rw[hdd,zHR]
  simp(disch:=first|assumption|decide|omega)[f1,f7,hlen,e2]
  rw[zxr]
  refine ZCv.then (Q:=fun e f'=> if wit p (t+i)=true then e=.normal∧f' 0=.int .i64 t∧f' 1=.vs (ZC1 l) l.length 2 o∧f' 2=mv∧f' 7=nv (i+1) else e=.ret∧f' 6=.int .i64 2) ?_ ?_ ?_
  ·refine ZCv.then (Q:=fun e f'=> if wit p (t+i)=true then e=.normal∧f' 0=.int .i64 t∧f' 1=.vs (ZC1 l) l.length 2 o∧f' 2=mv∧f' 7=nv i else e=.ret∧f' 6=.int .i64 2) ?_ ?_ ?_
   ·rw[zqT]
    refine ZCv.block (Q:=fun e f'=> if wit p (t+i)=true then e=.normal∧f' 0=.int .i64 t∧f' 1=.vs (ZC1 l) l.length 2 o∧f' 2=mv∧f' 7=nv i else e=.ret∧f' 6=.int .i64 2) ?_ ?_ fun e f' _ h=> h
    ·rw[zxt]
     simp(disch:=first|assumption|decide|omega)
     rw[zqW]
     refine ZCv.block (zYD (t:=t) (L:=t+i) (o:=o) hg hadd ?_ ?_ ?_ ?_) ?_ ?_
     ·simp[f0]
     ·simp[f1]
     ·simp[f7]
     ·simp
     ·intro f' hq
      split at hq
      ·rename_i hw
       rw[if_pos hw]
       obtain⟨_,q0,q1,q2,q7⟩:=hq
       refine⟨rfl,?_,?_,?_,?_⟩
       ·rw[q0];simp[f0]
       ·rw[q1];simp[f1]
       ·rw[q2];simp[f2]
       ·rw[q7];simp[f7]
      ·cases hq.1
     ·intro e f' hne hq
      split at hq
      ·exact absurd hq.1 hne
      ·rename_i hw
       rw[if_neg hw];exact hq
    ·intro f' hq
     split at hq
     ·cases hq.1
     ·cases hq.1
   ·intro f' hq
    split at hq
    ·rename_i hw
     obtain⟨_,q0,q1,q2,q7⟩:=hq
     simp only[if_pos hw]
     rw[zqU]
     simp(disch:=first|assumption|decide|omega)[q7,e1]
     refine ZCv.mk ?_
     simp[q0,q1,q2]
    ·cases hq.1
   ·intro e f' hne hq
    split at hq
    ·exact absurd hq.1 hne
    ·rename_i hw
     rw[if_neg hw];exact hq
  ·intro f' hq
   split at hq
   ·rename_i hw
    obtain⟨_,q0,q1,q2,q7⟩:=hq
    rw[hw]
    exact(ih (i+1) f' h (by omega) hil q0 q1 q2 q7).weak fun e f' hq=> by simpa using hq
   ·cases hq.1
  ·intro e f' hne hq
   split at hq
   ·exact absurd hq.1 hne
   ·rename_i hw
    have hw:wit p (t+i)=false:=by simpa using hw
    rw[hw]
    simpa using hq
set_option maxHeartbeats 4000000 in
theorem zYG {t:Int} (ht0:0≤t) (ht:t≤16) {l la:List PrI} {av mv:V} (hA:InS av la) (hM:InS mv l) (hL:l.length≤16) (hLa:la.length≤16):∀(k i:Nat) (f:Nat→V) (h:H),l.length - i=k→i≤l.length→f 0=.int .i64 t→f 1=av→f 2=mv→f 9=nv i→
 ZCv 86 h (fun e f'=> if ZDv (t+la.length) (l.drop i)=true then e=.exit 4 else e=.ret∧f' 6=.int .i64 2) (C 25 zj0 (S 86 f [] h)):=by
 have hlen:=ZC4 hM
 have hAl:=ZC4 hA
 intro k
 induction k with
 |zero=>
  intro i f h hk hi f0 f1 f2 f9
  obtain rfl:i=l.length:=by omega
  have e2:ZmK .lss .i64 (l.length:Int) .i64 (l.length:Int)=some (.bool false):=by rw[ltN];simp
  rw[zI0]
  simp(disch:=first|assumption|decide|omega)[f0,f2,f9,hlen,e2]
  refine ZCv.mk ?_
  simp[ZDv]
 |succ k ih=>
  intro i f h hk hi f0 f1 f2 f9
  have hil:i < l.length:=by omega
  have hg:l[i]?=some l[i]:=List.getElem?_eq_getElem hil
  have hd:=List.drop_eq_getElem_cons hil
  generalize l[i]=p at hg hd
  obtain⟨o,rfl⟩:=hM.vs (fun hh=> by rw[hh] at hil;cases hil)
  have hadd:ZmK .add .i64 t .i64 (la.length:Int)=some (.int .i64 (t+la.length)):=by rw[zq,za4 (by omega) (by omega)]
  have e1:=add1 (a:=i) (by omega)
  have e2:ZmK .lss .i64 (i:Int) .i64 (l.length:Int)=some (.bool true):=by rw[ltN];simp[hil]
  have hdd:ZDv (t+la.length) (l.drop i)=(wit p (t+la.length) && ZDv (t+la.length) (l.drop (i+1))):=by rw[hd];rfl
  rw[hdd,zI0]
  simp(disch:=first|assumption|decide|omega)[f2,f9,hlen,e2]
  rw[zxx]
  refine ZCv.then (Q:=fun e f'=> if wit p (t+la.length)=true then e=.normal∧f' 0=.int .i64 t∧f' 1=av∧f' 2=.vs (ZC1 l) l.length 2 o∧f' 9=nv (i+1) else e=.ret∧f' 6=.int .i64 2) ?_ ?_ ?_
  ·refine ZCv.then (Q:=fun e f'=> if wit p (t+la.length)=true then e=.normal∧f' 0=.int .i64 t∧f' 1=av∧f' 2=.vs (ZC1 l) l.length 2 o∧f' 9=nv i else e=.ret∧f' 6=.int .i64 2) ?_ ?_ ?_
   ·rw[zrg]
    refine ZCv.block (Q:=fun e f'=> if wit p (t+la.length)=true then e=.normal∧f' 0=.int .i64 t∧f' 1=av∧f' 2=.vs (ZC1 l) l.length 2 o∧f' 9=nv i else e=.ret∧f' 6=.int .i64 2) ?_ ?_ fun e f' _ h=> h
    ·rw[zxz]
     simp(disch:=first|assumption|decide|omega)
     rw[zrj]
     refine ZCv.block (zYE (t:=t) (L:=t+la.length) (o:=o) hg hAl hadd ?_ ?_ ?_ ?_ ?_) ?_ ?_
     ·simp[f0]
     ·simp[f1]
     ·simp[f2]
     ·simp[f9]
     ·simp
     ·intro f' hq
      split at hq
      ·rename_i hw
       rw[if_pos hw]
       obtain⟨_,q0,q1,q2,q9⟩:=hq
       refine⟨rfl,?_,?_,?_,?_⟩
       ·rw[q0];simp[f0]
       ·rw[q1];simp[f1]
       ·rw[q2];simp[f2]
       ·rw[q9];simp[f9]
      ·cases hq.1
     ·intro e f' hne hq
      split at hq
      ·exact absurd hq.1 hne
      ·rename_i hw
       rw[if_neg hw];exact hq
    ·intro f' hq
     split at hq
     ·cases hq.1
     ·cases hq.1
   ·intro f' hq
    split at hq
    ·rename_i hw
     obtain⟨_,q0,q1,q2,q9⟩:=hq
     simp only[if_pos hw]
     rw[zrh]
     simp(disch:=first|assumption|decide|omega)[q9,e1]
     refine ZCv.mk ?_
     simp[q0,q1,q2]
    ·cases hq.1
   ·intro e f' hne hq
    split at hq
    ·exact absurd hq.1 hne
    ·rename_i hw
     rw[if_neg hw];exact hq
  ·intro f' hq
   split at hq
   ·rename_i hw
    obtain⟨_,q0,q1,q2,q9⟩:=hq
    rw[hw]
    exact(ih (i+1) f' h (by omega) hil q0 q1 q2 q9).weak fun e f' hq=> by simpa using hq
   ·cases hq.1
  ·intro e f' hne hq
   split at hq
   ·exact absurd hq.1 hne
   ·rename_i hw
    have hw:wit p (t+la.length)=false:=by simpa using hw
    rw[hw]
    simpa using hq
set_option maxHeartbeats 4000000 in
theorem zYC {t:Int} (ht:t≤16) {la lm:List PrI} {av mv:V} (hA:InS av la) (hM:InS mv lm) (hLa:la.length≤16) (hLm:lm.length≤16):ZCm (fun v _ _=> v=.int .i64 (ZCt t la lm)) ((EV Tryz.prog hs ks).call 25 [.int .i64 t,av,mv] (mkH 0 (fun _=> .gone) [])):=by
 have hAl:=ZC4 hA
 have hMl:=ZC4 hM
 rw[zSu _ (by simp)]
 by_cases h0:t < 0
 ·have e1:ZmK .lss .i64 t .i64 0=some (.bool true):=by rw[zo];simp[h0]
  have hc:ZCt t la lm=2:=by unfold ZCt;rw[if_pos h0]
  rw[hc,zxC,zxp]
  simp(disch:=first|assumption|decide|omega)[zjW,zjY,e1]
  refine ZCm.mk ?_
  simp
 ·have e1:ZmK .lss .i64 t .i64 0=some (.bool false):=by rw[zo];simp[h0]
  have e2:ZmK .gtr .i64 t .i64 2000=some (.bool false):=by rw[zr];simp;omega
  have e3:ZmK .add .i64 t .i64 (la.length:Int)=some (.int .i64 (t+la.length)):=by rw[zq,za4 (by omega) (by omega)]
  have e4:ZmK .gtr .i64 (t+la.length) .i64 2000=some (.bool false):=by rw[zr];simp;omega
  have e5:ZmK .gtr .i64 (lm.length:Int) .i64 2000=some (.bool false):=by rw[zr];simp;omega
  rw[zxC]
  refine ZhY.rets (n:=86) (Q:=fun e f' _ _=> e=.ret∧f' 6=.int .i64 (ZCt t la lm)) ?_ ?_
  ·refine ZhY.seq (P:=fun f' _ _=> f' 0=.int .i64 t∧f' 1=av∧f' 2=mv) ?_ ?_
   ·rw[zxp]
    simp(disch:=first|assumption|decide|omega)
    refine ZhY.mk ?_
    exact⟨rfl,by simp,by simp,by simp⟩
   rintro f nb g d ⟨f0,f1,f2⟩
   rw[zjW]
   refine ZhY.seq (P:=fun f' _ _=> f' 0=.int .i64 t∧f' 1=av∧f' 2=mv) ?_ ?_
   ·rw[zjY]
    simp(disch:=first|assumption|decide|omega)[f0,e1]
    refine ZhY.mk ?_
    exact⟨rfl,by simp[f0],by simp[f1],by simp[f2]⟩
   rintro f nb g d ⟨f0,f1,f2⟩
   rw[zq0]
   refine ZhY.seq (P:=fun f' _ _=> f' 0=.int .i64 t∧f' 1=av∧f' 2=mv) ?_ ?_
   ·rw[zqD]
    simp(disch:=first|assumption|decide|omega)[f0,f1,f2,hAl,hMl,e2,e3,e4,e5]
    refine ZhY.mk ?_
    exact⟨rfl,by simp[f0],by simp[f1],by simp[f2]⟩
   rintro f nb g d ⟨f0,f1,f2⟩
   rw[zqF]
   refine ZhY.then (Q:=fun e f' _ _=> if ZDk t la 0=true then e=.normal∧f' 0=.int .i64 t∧f' 1=av∧f' 2=mv else e=.ret∧f' 6=.int .i64 2) ?_ ?_ ?_
   ·rw[zqJ]
    simp(disch:=first|assumption|decide|omega)
    rw[zqN]
    refine ZhY.block (Q:=fun e f' _ _=> if ZDk t la 0=true then e=.exit 0∧f' 0=.int .i64 t∧f' 1=av∧f' 2=mv else e=.ret∧f' 6=.int .i64 2) ((zYF (by omega) ht hA hLa la.length 0 _ _ rfl (Nat.zero_le _) ?_ ?_ ?_ ?_).ends fun e f' h=> h) ?_ ?_
    ·simp[f0]
    ·simp[f1]
    ·simp[f2]
    ·simp
    ·intro f' _ _ hq
     split at hq
     ·rename_i hw
      rw[if_pos hw];exact⟨rfl,hq.2⟩
     ·cases hq.1
    ·intro e f' _ _ hne hq
     split at hq
     ·exact absurd hq.1 hne
     ·rename_i hw
      rw[if_neg hw];exact hq
   ·intro f nb g d hq
    split at hq
    case isFalse=> cases hq.1
    rename_i hw
    obtain⟨_,f0,f1,f2⟩:=hq
    rw[zqL]
    refine ZhY.then (Q:=fun e f' _ _=> if ZDv (t+la.length) lm=true then e=.normal else e=.ret∧f' 6=.int .i64 2) ?_ ?_ ?_
    ·rw[zq7]
     simp(disch:=first|assumption|decide|omega)
     rw[zra]
     refine ZhY.block (Q:=fun e f' _ _=> if ZDv (t+la.length) lm=true then e=.exit 4 else e=.ret∧f' 6=.int .i64 2) ((zYG (by omega) ht hA hM hLm hLa lm.length 0 _ _ rfl (Nat.zero_le _) ?_ ?_ ?_ ?_).ends fun e f' h=> h) ?_ ?_
     ·simp[f0]
     ·simp[f1]
     ·simp[f2]
     ·simp
     ·intro f' _ _ hq
      split at hq
      ·rename_i hw
       rw[if_pos hw]
      ·cases hq.1
     ·intro e f' _ _ hne hq
      split at hq
      ·exact absurd hq hne
      ·rename_i hw
       rw[if_neg hw];exact hq
    ·intro f nb g d hq
     split at hq
     case isFalse=> cases hq.1
     rename_i hw2
     have hc:ZCt t la lm=0:=by unfold ZCt;rw[if_neg h0,if_pos ⟨hw,hw2⟩]
     rw[hc,zq9]
     simp(disch:=first|assumption|decide|omega)
     refine ZhY.mk ?_
     exact⟨rfl,by simp⟩
    ·intro e f' _ _ hne hq
     split at hq
     ·exact absurd hq hne
     ·rename_i hw2
      have hc:ZCt t la lm=2:=by unfold ZCt;rw[if_neg h0,if_neg (fun hh=> hw2 hh.2)]
      rw[hc];exact hq
   ·intro e f' _ _ hne hq
    split at hq
    ·exact absurd hq.1 hne
    ·rename_i hw
     have hc:ZCt t la lm=2:=by unfold ZCt;rw[if_neg h0,if_neg (fun hh=> hw hh.1)]
     rw[hc];exact hq
  ·rintro e f' nb' g' d' ⟨rfl,h2⟩
   rw[zA5]
   simp(disch:=first|assumption|decide|omega)[h2]
   refine ZCm.mk ?_
   rfl
end
end
section
open Go Go.Ae
attribute [local simp] ZCl ZF JC JB ZR ZS Zo ZE Jx Jw Jq Zw Zk S_h ZH Zz ZM ZK ZL zt ZO ZN Z7 Zj Jp Z8 JD JE Zt Z0 ZCD ZP ZQ zq zB zz zA zo Z5 zr zO Jy Jz JG JH Z1 Z2 Z3 Z4 ZI Zy JF ZT ZW ZB ZA ZY ZX ZZ ZnB Zi3 V.ones Je Jd Jh Jg Jf Ji Jn Jo Jm ZV Jk Jl Jj zK ZU zL JA Jt Js Ju Jr Jv Ja Jb Jc Z9 max2 cond_true cond_false List.nil_append List.cons_append zdH zdG zdy zrr zrs zbp zsj zsh zsi zbt zbu ztE ztC ztD zaE zuT zrv zrF zry zrz zrA zrB zrC zrD zrE zrH zrI zrJ zrx zrK zrW zrQ zrR zrS zrT zrU zrV zrP zrL zrM zrN zrO zbv zbo zr1 zrZ zr0 zay zr3 zr5 zsd zr8 zr9 zsa zsb zsc zsf zsg zsl zr7 zbG zcC zcD zss zst zsu zsv zsw zbI zbJ zsy zsz zsD zsE zsF zsG zsH zsI zsJ zsK zsA zsB zsC zsL zbH zsn zso zsp zsq zbq zbr zsR zsP zsQ zaA zsT zsV zsZ zsX zsY zs1 zs2 zs3 zbK zdz zs8 zs6 zs7 zdA ztc zta ztb zbL zte ztg ztn zti ztj ztk ztl ztm ztp ztq ztr zdB zbM zdC ztz ztx zty zbO ztB ztG ztM ztI ztJ ztK ztL ztO ztP ztQ zdD zbP zdE zbR ztX ztY zt9 zuk zus zut zuu zuv zuw zux ztZ zt0 zt1 zt2 zt3 zt4 zt5 zt6 zt7 zt8 zua zub zuc zud zue zuf zug zuh zui zuj zul zum zun zuo zup zuq zur zbS zdF zuz zuA zuE zuF zuG zuH zuI zuJ zuK zuL zuB zuC zuD zuM zbQ ztS ztT ztU ztV zbN zts ztt ztu ztv zbs zuQ zuN zuO zuP zuR zxT zxS zxP zBk zBl zdJ zdK zBP zBQ zBR zBS zdL zdM zBV zBT zBU zdO zBW zBm zBs zBo zBp zBq zBr zBt zBv zBx zBn zdI zBI zBD zBE zBF zBG zBH zBC zBy zBz zBA zBB zdN zBM zBJ zBK zBL zBO
section
attribute [local simp] ld3 ld4 ZCB ZCG ZCN ZCP ZCK ZCH ZEs ZEr JR JS sz3 sz4 ZCx ZCz sp2 JO zK zL JY JX aa1
attribute [-simp] zo zr zq zz zA zB zO max2 zdO zdL zdM zdN zdK zdJ zdI zaE zay zaA zbp zbt zbu zbv zbo zbq zbr zbs
theorem ZKn:zeroOf Tryz.prog 4=some (.bool false):=by kernel_rfl
theorem by4:bytesOf Tryz.prog 4=1:=by kernel_rfl
theorem zOm:∀n,ZDw [V.bool false] n=bools (List.replicate n false)
 |0=> rfl
 |n+1=> by show[V.bool false]++ZDw [V.bool false] n=_;rw[zOm n,List.replicate_succ];rfl
theorem mk4 {n nid:Nat} (hn:n < 100000):mkS Tryz.prog 4 nid (nv n) (nv n)=some {v:=.hs nid 0 n n 1 true,nw:=[.row 0 (bools (List.replicate n false))]}:=by
 unfold mkS
 simp only[asI]
 unfold ZE6
 rw[by4,ok4,sz4,ZKn]
 rw[if_pos ⟨by omega,by omega,by omega,by omega,rfl⟩]
 by_cases h0:n=0
 ·subst h0;rfl
 ·simp[h0,ZA,zOm]
theorem zPD (l:List Bool) (i:Nat) (b:Bool):(bools l).set i (.bool b)=bools (l.set i b):=by
 unfold bools;rw[List.map_set]
set_option maxHeartbeats 2000000 in
theorem zPp {n r nb:Nat} (hn:n < 100000) (hr:r < nb):∀(k i:Nat) (l:List Bool) (f:Nat→V) (g:Nat→Blk) (d:List Nat),n - i=k→i≤n→l.length=n→f 0=nv n→f 3=.hs r 0 n n 1 true→f 4=nv i→g r=.row 0 (bools l)→(∀j,j < i→l[j]?=some true)→
 ZhY 16 (fun e f' nb' g'=> e=.exit 0∧nb'=nb∧f' 3=.hs r 0 n n 1 true∧g' r=.row 0 (bools (List.replicate n true))) (C 27 zj7 (S 16 f [] (mkH nb g d))):=by
 intro k
 induction k with
 |zero=>
  intro i l f g d hk hi hl f0 f3 f4 hg hj
  obtain rfl:i=n:=by omega
  have e2:ZmK .lss .i64 (i:Int) .i64 (i:Int)=some (.bool false):=by rw[ltN];simp
  have:l=List.replicate i true:=List.eq_replicate_iff.2 ⟨hl,fun b hb=> by
   obtain⟨j,hj'⟩:=List.mem_iff_getElem?.1 hb
   have:=hj j (by rw[←hl];exact(List.getElem?_eq_some_iff.1 hj').1)
   rw[hj'] at this;cases this;rfl⟩
  rw[this] at hg
  rw[zKg]
  simp(disch:=first|assumption|decide|omega)[f0,f4,e2]
  refine ZhY.mk ?_
  exact⟨rfl,rfl,by simp[f3],hg⟩
 |succ k ih=>
  intro i l f g d hk hi hl f0 f3 f4 hg hj
  have hin:i < n:=by omega
  have hin':i≤n:=hi
  have e1:=add1 (a:=i) (by omega)
  have e2:ZmK .lss .i64 (i:Int) .i64 (n:Int)=some (.bool true):=by rw[ltN];simp[hin]
  have sp1:splice (bools l) [.bool true] i=some (bools (l.set i true)):=by rw[zaV (by rw[zwF];omega),zPD]
  rw[zKg]
  simp(disch:=first|assumption|decide|omega)[f0,f3,f4,e1,e2,hg,sp1,zwF,hl,hin',zdI]
  refine(ih (i+1) (l.set i true) _ _ _ (by omega) hin (by rw[List.length_set];exact hl) ?_ ?_ ?_ ?_ fun j hji=> ?_).weak fun e f' nb' g' h=> h
  ·simp[f0]
  ·simp[f3]
  ·simp
  ·simp
  ·by_cases hij:i=j
   ·subst hij;exact List.getElem?_set_self (by omega)
   ·rw[List.getElem?_set_ne hij];exact hj j (by omega)
theorem ZgG {n:Nat} (hn:n < 100000) (g:Nat→Blk) (d:List Nat):∃g',ZCi Tryz.prog hs ks 27 [nv n] (mkH 0 g d)=some [(.ret (.hs 0 0 n n 1 true),mkH 1 g' d)]∧g' 0=.row 0 (bools (List.replicate n true)):=by
 have key:ZCm (fun v nb' g'=> v=.hs 0 0 n n 1 true∧nb'=1∧g' 0=.row 0 (bools (List.replicate n true))) ((EV Tryz.prog hs ks).call 27 [nv n] (mkH 0 (fun _=> .gone) [])):=by
  rw[zSv _ (by simp),zxS]
  refine ZhY.rets (n:=16) (Q:=fun e f' nb' g'=> e=.ret∧nb'=1∧f' 2=.hs 0 0 n n 1 true∧g' 0=.row 0 (bools (List.replicate n true))) ?_ ?_
  ·refine ZhY.seq (P:=fun f' nb' g'=> nb'=0∧f' 0=nv n) ?_ ?_
   ·rw[zxP]
    simp(disch:=first|assumption|decide|omega)
    refine ZhY.mk ?_
    exact⟨rfl,rfl,by simp⟩
   rintro f nb g d ⟨rfl,f0⟩
   rw[zdJ]
   have hmk (nid:Nat):=mk4 (n:=n) (nid:=nid) hn
   refine ZhY.seq (P:=fun f' nb' g'=> nb'=1∧f' 0=nv n∧f' 3=.hs 0 0 n n 1 true∧g' 0=.row 0 (bools (List.replicate n false))) ?_ ?_
   ·rw[zdK]
    simp(disch:=first|assumption|decide|omega)[f0,hmk]
    refine ZhY.mk ?_
    exact⟨rfl,rfl,by simp[f0],by simp,by simp⟩
   rintro f nb g d ⟨rfl,f0,f3,hg⟩
   rw[zdL]
   refine ZhY.seq (P:=fun f' nb' g'=> nb'=1∧f' 3=.hs 0 0 n n 1 true∧g' 0=.row 0 (bools (List.replicate n true))) ?_ ?_
   ·rw[zdM]
    simp(disch:=first|assumption|decide|omega)
    rw[zdO]
    refine ZhY.block (zPp (r:=0) (nb:=1) hn (by omega) n 0 (List.replicate n false) _ _ _ rfl (Nat.zero_le _) (List.length_replicate) ?_ ?_ ?_ hg fun j hj=> by omega) ?_ ?_
    ·simp[f0]
    ·simp[f3]
    ·simp
    ·rintro f' nb' g' ⟨_,h⟩;exact⟨rfl,h⟩
    ·rintro e f' nb' g' hne ⟨rfl,_⟩;exact absurd rfl hne
   rintro f nb g d ⟨rfl,f3,hg⟩
   rw[zdN]
   simp(disch:=first|assumption|decide|omega)[f3]
   refine ZhY.mk ?_
   exact⟨rfl,rfl,by simp,hg⟩
  ·rintro e f' nb' g' d' ⟨rfl,rfl,h2,hg⟩
   rw[zxT]
   simp(disch:=first|assumption|decide|omega)[h2,zdf,zji]
   refine ZCm.mk ?_
   exact⟨rfl,rfl,hg⟩
 obtain⟨v,nb',g1,d',hc,rfl,rfl,hg⟩:=key
 obtain⟨g',h1,h2⟩:=zPL (args:=[nv n]) (args':=[nv n]) rfl rfl (QT (by decide)) rfl hc g d
 exact⟨g',h1,by rw[h2 0 (by omega)];exact zyw hg⟩
end
end
section
open Go Go.Ae
attribute [local simp] ZCl ZF JC JB ZR ZS Zo ZE Jx Jw Jq Zw Zk S_h ZH Zz ZM ZK ZL zt ZO ZN Z7 Zj Jp Z8 JD JE Zt Z0 ZCD ZP ZQ zq zB zz zA zo Z5 zr zO Jy Jz JG JH Z1 Z2 Z3 Z4 ZI Zy JF ZT ZW ZB ZA ZY ZX ZZ ZnB Zi3 V.ones Je Jd Jh Jg Jf Ji Jn Jo Jm ZV Jk Jl Jj zK ZU zL JA Jt Js Ju Jr Jv Ja Jb Jc Z9 max2 cond_true cond_false List.nil_append List.cons_append zdH zdG zdy zrr zrs zbp zsj zsh zsi zbt zbu ztE ztC ztD zaE zuT zrv zrF zry zrz zrA zrB zrC zrD zrE zrH zrI zrJ zrx zrK zrW zrQ zrR zrS zrT zrU zrV zrP zrL zrM zrN zrO zbv zbo zr1 zrZ zr0 zay zr3 zr5 zsd zr8 zr9 zsa zsb zsc zsf zsg zsl zr7 zbG zcC zcD zss zst zsu zsv zsw zbI zbJ zsy zsz zsD zsE zsF zsG zsH zsI zsJ zsK zsA zsB zsC zsL zbH zsn zso zsp zsq zbq zbr zsR zsP zsQ zaA zsT zsV zsZ zsX zsY zs1 zs2 zs3 zbK zdz zs8 zs6 zs7 zdA ztc zta ztb zbL zte ztg ztn zti ztj ztk ztl ztm ztp ztq ztr zdB zbM zdC ztz ztx zty zbO ztB ztG ztM ztI ztJ ztK ztL ztO ztP ztQ zdD zbP zdE zbR ztX ztY zt9 zuk zus zut zuu zuv zuw zux ztZ zt0 zt1 zt2 zt3 zt4 zt5 zt6 zt7 zt8 zua zub zuc zud zue zuf zug zuh zui zuj zul zum zun zuo zup zuq zur zbS zdF zuz zuA zuE zuF zuG zuH zuI zuJ zuK zuL zuB zuC zuD zuM zbQ ztS ztT ztU ztV zbN zts ztt ztu ztv zbs zuQ zuN zuO zuP zuR
section
attribute [local simp] ld3 ld4 ZCB ZCG ZCN ZCP ZCK ZCH ZEs ZEr JR JS sz3 sz4 ZCx ZCz sp2 JO zK zL JY JX aa1
attribute [-simp] zo zr zq zz zA zB zO max2 zaE zay zaA zbp zbt zbu zbv zbo zbq zbr zbs
section
variable {m:Nat} {apps merges:List Key} {av mv uv:V} {bl:List Bool} {res:List Nat}
set_option maxHeartbeats 4000000 in
theorem zPW (hA:apps≠[]→∃o,av=.vs (prs apps) apps.length 2 o) (hM:merges≠[]→∃o,mv=.vs (prs merges) merges.length 2 o)
 (hAl:∀get nid,ZmL Tryz.prog false get nid .len [22] [av]=some {v:=nv apps.length}) (hMl:∀get nid,ZmL Tryz.prog false get nid .len [22] [mv]=some {v:=nv merges.length})
 (hm:m < 100) (hal:apps.length < 100) (hml:merges.length < 100) (hn0:m+apps.length≠0) {nb:Nat} {g:Nat→Blk} {d:List Nat} (hnb:nb < 1000000) (hU:UsB g nb uv bl) (hbl:bl.length=merges.length) (hr:ZGq m apps merges (ZDm bl)=some res):
 ZCm (fun v nb' g'=> nb≤nb'∧nb'≤nb+(m+apps.length)∧(∀r,r < nb→g' r=g r)∧res.length=m+apps.length∧∃rc,v=.hs rc 0 (m+apps.length) (m+apps.length) 1 false∧nb≤rc∧rc < nb'∧g' rc=.row 0 (ints res)) ((EV Tryz.prog hs ks).call 26 [nv m,av,mv,uv] (mkH nb g d)):=by
 unfold ZGq at hr
 split at hr
 case h_2=> cases hr
 rename_i c1 hc1
 generalize hN:m+apps.length=n at *
 have hn2:n < 1000:=by omega
 rw[zKf _ (by simp),zdG]
 refine ZhY.rets (n:=109) (Q:=fun e f' nb' g'=> e=.ret∧∃rc,CI m av mv uv n nb g res rc f' nb' g'∧f' 8=.hs rc 0 n n 1 false) ?_ ?_
 ·refine ZhY.seq (P:=fun f' nb' g'=> nb'=nb∧g'=g∧f' 0=nv m∧f' 1=av∧f' 2=mv∧f' 3=uv) ?_ ?_
  ·rw[zdy]
   simp(disch:=first|assumption|decide|omega)
   refine ZhY.mk ?_
   exact⟨rfl,rfl,rfl,by simp,by simp,by simp,by simp⟩
  rintro f nb1 g1 d ⟨hb,hg,f0,f1,f2,f3⟩
  have hb:=hb.symm
  have hg:=hg.symm
  subst hb hg
  rw[zbp]
  refine ZhY.seq (P:=fun f' nb' g'=> nb'=nb∧g'=g∧f' 0=nv m∧f' 1=av∧f' 2=mv∧f' 3=uv∧f' 9=.nils) ?_ ?_
  ·simp(disch:=first|assumption|decide|omega)
   refine ZhY.mk ?_
   exact⟨rfl,rfl,rfl,by simp[f0],by simp[f1],by simp[f2],by simp[f3],by simp⟩
  rintro f nb1 g1 d ⟨hb,hg,f0,f1,f2,f3,f9⟩
  have hb:=hb.symm
  have hg:=hg.symm
  subst hb hg
  rw[zbt]
  refine ZhY.seq (P:=fun f' nb' g'=> ∃rc,CI m av mv uv n nb g (List.range n) rc f' nb' g') ?_ ?_
  ·rw[zbu]
   simp(disch:=first|assumption|decide|omega)
   rw[zaE]
   refine ZhY.block (zP3 (nb0:=nb) (g0:=g) (av:=av) (mv:=mv) (uv:=uv) hN hn2 hn0 hAl n 0 0 _ _ _ _ rfl (Nat.zero_le _) ?_ ?_ ?_ ?_ ?_ ?_ (fun hh=> absurd rfl hh) (Nat.le_refl _) (Nat.le_refl _) fun _ _=> rfl) ?_ ?_
   ·simp[f0]
   ·simp[f1]
   ·simp[f2]
   ·simp[f3]
   ·simp[f9,fld]
   ·simp
   ·rintro f' nb' g' ⟨_,h⟩;exact⟨rfl,h⟩
   ·rintro e f' nb' g' hne ⟨rfl,_⟩;exact absurd rfl hne
  rintro f nb1 g1 d ⟨rc,hI⟩
  rw[zbv]
  refine ZhY.seq (P:=fun f' nb' g'=> CI m av mv uv n nb g c1 rc f' nb' g') ?_ ?_
  ·rw[zbo]
   simp(disch:=first|assumption|decide|omega)
   rw[zay]
   refine ZhY.block (Q:=fun e f' nb' g'=> e=.exit 2∧CI m av mv uv n nb g c1 rc f' nb' g') ?_ ?_ ?_
   ·by_cases hz:merges=[]
    ·subst hz
     cases hc1
     have f2:=hI.f2
     have e2:ZmK .lss .i64 0 .i64 0=some (.bool false):=rfl
     rw[zxG]
     simp(disch:=first|assumption|decide|omega)[f2,hMl,e2]
     refine ZhY.mk ?_
     exact⟨rfl,hI.keep (by simp)⟩
    ·obtain⟨o,ho⟩:=hM hz
     exact zP4 hn2 hnb hU hbl (by omega) ho merges.length 0 _ c1 _ _ _ _ rfl (Nat.zero_le _) hc1 (hI.keep (by simp)) (by simp)
   ·rintro f' nb' g' ⟨_,h⟩;exact⟨rfl,h⟩
   ·rintro e f' nb' g' hne ⟨rfl,_⟩;exact absurd rfl hne
  rintro f nb1 g1 d hI
  rw[zbq]
  refine ZhY.seq (P:=fun f' nb' g'=> CI m av mv uv n nb g res rc f' nb' g') ?_ ?_
  ·rw[zbr]
   simp(disch:=first|assumption|decide|omega)
   rw[zaA]
   refine ZhY.block (zP8 (cls':=res) hn2 hnb (by omega) (by omega) hA hAl 100 c1 _ _ _ _ hr (hI.keep (by simp)) (by simp)) ?_ ?_
   ·rintro f' nb' g' ⟨_,h⟩;exact⟨rfl,h⟩
   ·rintro e f' nb' g' hne ⟨rfl,_⟩;exact absurd rfl hne
  rintro f nb1 g1 d hI
  have f9:=hI.f9
  rw[zbs]
  simp(disch:=first|assumption|decide|omega)[f9]
  refine ZhY.mk ?_
  exact⟨rfl,rc,hI.keep (by simp),by simp⟩
 ·rintro e f' nb' g' d' ⟨rfl,rc,hI,h2⟩
  have h1:=hI.lo
  have h3:=hI.lt
  rw[zdH]
  simp(disch:=first|assumption|decide|omega)[h2,zdf,zji]
  refine ZCm.mk ?_
  exact⟨by omega,hI.hnb,hI.fr,hI.len,rc,rfl,h1,h3,hI.hg⟩
set_option maxHeartbeats 4000000 in
theorem zPX (hAl:∀get nid,ZmL Tryz.prog false get nid .len [22] [av]=some {v:=nv 0}) (hMl:∀get nid,ZmL Tryz.prog false get nid .len [22] [mv]=some {v:=nv 0}) {nb:Nat} {g:Nat→Blk} {d:List Nat}:
 ZCm (fun v nb' g'=> v=.nils∧nb'=nb∧g'=g) ((EV Tryz.prog hs ks).call 26 [nv 0,av,mv,uv] (mkH nb g d)):=by
 have e1:ZmK .add .i64 0 .i64 0=some (.int .i64 0):=rfl
 have e2:ZmK .lss .i64 0 .i64 0=some (.bool false):=rfl
 rw[zKf _ (by simp),zdG]
 refine ZhY.rets (n:=109) (Q:=fun e f' nb' g'=> e=.ret∧nb'=nb∧g'=g∧f' 8=.nils) ?_ ?_
 ·refine ZhY.seq (P:=fun f' nb' g'=> nb'=nb∧g'=g∧f' 0=nv 0∧f' 1=av∧f' 2=mv) ?_ ?_
  ·rw[zdy]
   simp(disch:=first|assumption|decide|omega)
   refine ZhY.mk ?_
   exact⟨rfl,rfl,rfl,by simp,by simp,by simp⟩
  rintro f nb1 g1 d ⟨rfl,rfl,f0,f1,f2⟩
  rw[zbp]
  simp(disch:=first|assumption|decide|omega)[zbt,zbu,zaE,zBj,f0,f1,hAl,e1,e2]
  simp(disch:=first|assumption|decide|omega)[zbv,zbo,zay,zxG,f2,hMl,e2]
  simp(disch:=first|assumption|decide|omega)[zbq,zbr,zaA]
  rw[zxI]
  simp(disch:=first|assumption|decide|omega)
  rw[zxK]
  simp(disch:=first|assumption|decide|omega)[f1,hAl,e2]
  rw[zxI]
  simp(disch:=first|assumption|decide|omega)[zbs]
  refine ZhY.mk ?_
  exact⟨rfl,rfl,rfl,by simp⟩
 ·rintro e f' nb' g' d' ⟨rfl,rfl,rfl,h2⟩
  rw[zdH]
  simp(disch:=first|assumption|decide|omega)[h2]
  refine ZCm.mk ?_
  exact⟨rfl,rfl,rfl⟩
end
end
end
section
open Go Go.Ae
attribute [local simp] ZCl ZF JC JB ZR ZS Zo ZE Jx Jw Jq Zw Zk S_h ZH Zz ZM ZK ZL zt ZO ZN Z7 Zj Jp Z8 JD JE Zt Z0 ZCD ZP ZQ zq zB zz zA zo Z5 zr zO Jy Jz JG JH Z1 Z2 Z3 Z4 ZI Zy JF ZT ZW ZB ZA ZY ZX ZZ ZnB Zi3 V.ones Je Jd Jh Jg Jf Ji Jn Jo Jm ZV Jk Jl Jj zK ZU zL JA Jt Js Ju Jr Jv Ja Jb Jc Z9 max2 cond_true cond_false List.nil_append List.cons_append
section
attribute [local simp] ld3 ld4 ZCB ZCG ZCN ZCP ZCK ZCH ZEs ZEr JR JS sz3 sz4 ZCx ZCz sp2 JO zK zL JY JX aa1
attribute [-simp] zo zr zq zz zA zB zO max2
theorem LeastC.used {m:Nat} {apps merges:List Key} {u u':Nat→Bool} {res:List Nat} (h:LeastC m apps merges u res) (hu:∀i,i < merges.length→u i=u' i):LeastC m apps merges u' res:=
 ⟨h.len,h.rep,fun i p hp hi=> h.mrg i p hp (by rw[hu i (List.getElem?_eq_some_iff.1 hp).1];exact hi),h.app,fun Rel hR hM=> h.lst Rel hR fun i p hp hi=> hM i p hp (by rw[←hu i (List.getElem?_eq_some_iff.1 hp).1];exact hi)⟩
theorem InS.keys {v:V} {la:List PrI} (h:InS v la) (hp:∀p∈la,0≤p.1∧0≤p.2):toK la≠[]→∃o,v=.vs (prs (toK la)) (toK la).length 2 o:=fun hne=> by
 have hne':la≠[]:=fun hh=> hne (by rw[hh];rfl)
 obtain⟨o,ho⟩:=h.vs hne'
 exact⟨o,by rw[ho,zyq hp,Qe]⟩
theorem zDD {t:Int} {la lm:List PrI} (h:ZCt t la lm=0):0≤t∧ZDk t la 0=true∧ZDv (t+la.length) lm=true:=by
 unfold ZCt at h
 split at h
 ·cases h
 ·split at h
  ·rename_i h0 h1
   exact⟨by omega,h1⟩
  ·cases h
def SlK (v:V) (l:List Nat):Prop:=(v=.nils∧l=[])∨v=.vs (ints l) l.length 1 .lock
theorem SlK.slv {v:V} {l:List Nat} (h:SlK v l):SlV v l:=h.imp id fun h=> ⟨_,h⟩
theorem SlK.shut {v:V} {l:List Nat} (h:SlK v l):V.shut v=v∧V.pure v=true∧V.cells v=[v]∧V.one v=true:=by
 rcases h with ⟨rfl,_⟩|rfl <;> exact⟨rfl,rfl,rfl,rfl⟩
theorem SlK.ret {v:V} {l:List Nat} (h:SlK v l) (n:Nat) (h1:H) (e:Int):ZD3 n h1 (.tup [v,.int .i64 e])=some {v:=.tup [v,.int .i64 e]}:=by
 rcases h with ⟨rfl,_⟩|rfl <;> rfl
theorem ZgH {m:Nat} {la lm:List PrI} {av mv:V} {bl:List Bool} {r nb:Nat} {ex:Bool} {g:Nat→Blk} {d:List Nat} (hm:m≤16) (hA:InS av la) (hM:InS mv lm) (hLa:la.length≤16) (hLm:lm.length≤16) (hchk:ZCt m la lm=0) (hbl:bl.length=lm.length) (hnb:nb < 1000000) (hr:r < nb) (hg:g r=.row 0 (bools bl)):
 ∃res,LeastC m (toK la) (toK lm) (ZDm bl) res∧res.length=m+la.length∧ZCm (fun v nb' g'=> nb≤nb'∧nb'≤nb+(m+la.length)∧(∀r,r < nb→g' r=g r)∧(m+la.length=0→v=.nils)∧(m+la.length≠0→∃rc,v=.hs rc 0 (m+la.length) (m+la.length) 1 false∧nb≤rc∧rc < nb'∧g' rc=.row 0 (ints res))) (ZCi Tryz.prog hs ks 26 [nv m,av,mv,.hs r 0 bl.length bl.length 1 ex] (mkH nb g d)):=by
 obtain⟨_,ho1,ho2⟩:=zDD hchk
 have hP:=zCV hchk
 obtain⟨res,hrf,hl⟩:=zYv (used:=ZDm bl) hP (by rw[Qe];omega)
 have hlen:=hl.len
 rw[Qe] at hlen
 have hAl:=ZC4 hA
 have hMl:=ZC4 hM
 have hpu:V.pures (V.seals [nv m,av,mv,.hs r 0 bl.length bl.length 1 ex])=false:=by
  show(V.pure (nv m) && (V.pure (V.shut av) && (V.pure (V.shut mv) && (false && true))))=false
  simp
 refine⟨res,hl,hlen,?_⟩
 rw[zwH hpu]
 by_cases h0:m+la.length=0
 ·have hla:la.length=0:=by omega
  have hm0:m=0:=by omega
  have hlm:lm.length=0:=by
   cases lm with
   |nil=> rfl
   |cons p l=>
    have:=zjp (List.all_eq_true.1 ho2 p List.mem_cons_self)
    omega
  rw[hla] at hAl
  rw[hlm] at hMl
  subst hm0
  obtain⟨v,nb',g',d',hc,rfl,rfl,rfl⟩:=zPX (uv:=.hs r 0 bl.length bl.length 1 ex) hAl hMl (nb:=nb) (g:=g) (d:=d)
  exact⟨_,_,_,_,hc,Nat.le_refl _,by omega,fun _ _=> rfl,fun _=> rfl,fun hh=> absurd h0 hh⟩
 ·obtain⟨v,nb',g',d',hc,q1,q2,q3,_,q4⟩:=zPW (hA.keys (zyJ ho1)) (hM.keys (zNT ho2)) (by rw[Qe];exact hAl) (by rw[Qe];exact hMl) (by omega) (by rw[Qe];omega) (by rw[Qe];omega) (by rw[Qe];exact h0) (nb:=nb) (g:=g) (d:=d) hnb (.inr ⟨r,ex,rfl,hr,hg⟩) (by rw[Qe];exact hbl) hrf
  rw[Qe] at q2 q4
  exact⟨v,nb',g',d',hc,q1,q2,q3,fun hh=> absurd hh h0,fun _=> q4⟩
theorem zYB {t:Int} (ht:t≤16) {la lm:List PrI} {av mv:V} (hA:InS av la) (hM:InS mv lm) (hLa:la.length≤16) (hLm:lm.length≤16) (h:H):ZCi Tryz.prog hs ks 25 [.int .i64 t,av,mv] h=some [(.ret (.int .i64 (ZCt t la lm)),h)]:=by
 obtain⟨hA',pa⟩:=hA.shut
 obtain⟨hM',pm⟩:=hM.shut
 have hpu:V.pures [.int .i64 t,V.shut av,V.shut mv]=true:=by
  show(V.pure (.int .i64 t) && (V.pure (V.shut av) && (V.pure (V.shut mv) && true)))=true
  rw[pa,pm];rfl
 obtain⟨v,nb',g',d',hc,rfl⟩:=zYC ht hA' hM' hLa hLm
 exact QV (args':=[.int .i64 t,V.shut av,V.shut mv]) rfl hpu (QT (by decide)) rfl hc (fun n=> rfl) h
end
end
end Go.Proofs.YtdlaladdeelegaaGreat.Cg
end
