/- The statement, computed. -/
import Derived.Test.YtdlaladdeelegaaGreatF5
set_option linter.all false
noncomputable section
namespace Go.Proofs.YtdlaladdeelegaaGreat.Cg
section
open Go Go.Ae
section
theorem ZG3:und Tryz.prog 87=.map 3 4:=by kernel_rfl
theorem ZHC (cs:List V):ZCC Tryz.prog 87 cs=cs.head?:=ld1 (by kernel_rfl) (by kernel_rfl) cs
theorem Zul (k:Nat):ZEd Tryz.prog 3 (nv k)=true:=by kernel_rfl
theorem ZKo:zeroOf Tryz.prog 4=some (.bool false):=by kernel_rfl
def ZCI (l:List (Nat×Bool)):List (V×V):=l.map fun e=> (nv e.1,.bool e.2)
theorem ZAK (l m:List (Nat×Bool)):ZCI l++ZCI m=ZCI (l++m):=(List.map_append).symm
theorem ZnD {l:List (Nat×Bool)} {k:Nat} (h:k∉l.map (·.1)) (j:Nat):ZCU Tryz.prog 3 (nv k) (ZCI l) j=some none:=by
 rw[zkP]
 intro p hp
 obtain⟨e,he,rfl⟩:=List.mem_map.1 hp
 rw[eqI]
 have:k≠e.1:=fun hh=> h (hh ▸ List.mem_map_of_mem he)
 simp[this]
theorem ZAW (k:Nat) (e:Nat×Bool) (l:List (Nat×Bool)) (j:Nat):ZCU Tryz.prog 3 (nv k) (ZCI (e::l)) j=if k=e.1 then (match ZCU Tryz.prog 3 (nv k) (ZCI l) (j+1) with
      |some none=> some (some (j,.bool e.2))
      |_=> none) else ZCU Tryz.prog 3 (nv k) (ZCI l) (j+1):=by
 show ZCU Tryz.prog 3 (nv k) ((nv e.1,.bool e.2)::ZCI l) j=_
 rw[ZCU,eqI]
 by_cases hk:k=e.1
 ·rw[if_pos hk,decide_eq_true hk]
  simp only
  cases ZCU Tryz.prog 3 (nv k) (ZCI l) (j+1) with
  |none=> rfl
  |some x=> cases x <;> rfl
 ·rw[if_neg hk,decide_eq_false hk]
theorem ZAY {l:List (Nat×Bool)} {k:Nat} (h:k∉l.map (·.1)):ZCy l k=false:=by
 induction l with
 |nil=> rfl
 |cons e l ih=>
  rw[List.map_cons,List.mem_cons,not_or] at h
  unfold ZCy
  rw[if_neg (fun hh=> h.1 hh.symm),ih h.2]
theorem ZnE {k:Nat}:∀{l:List (Nat×Bool)},(l.map (·.1)).Nodup→k∈l.map (·.1)→∀(j:Nat),∃i,ZCU Tryz.prog 3 (nv k) (ZCI l) j=some (some (j+i,.bool (ZCy l k)))∧(∃b,(ZCI l)[i]?=some (nv k,.bool b))∧∀t,ZCI (ZCQ l k t)=(ZCI l).set i (nv k,.bool t)
 |[],_,h,_=> by cases h
 |e::l,hn,h,j=> by
  rw[List.map_cons,List.nodup_cons] at hn
  rw[List.map_cons,List.mem_cons] at h
  rw[ZAW]
  by_cases hk:k=e.1
  ·have hno:k∉l.map (·.1):=fun hh=> hn.1 (hk ▸ hh)
   refine⟨0,?_,⟨e.2,?_⟩,fun t=> ?_⟩
   ·rw[if_pos hk,ZnD hno]
    simp only[Nat.add_zero]
    unfold ZCy
    rw[if_pos hk.symm]
   ·show some (nv e.1,V.bool e.2)=_;rw[hk]
   ·unfold ZCQ
    rw[if_pos hk.symm];rfl
  ·have h:k∈l.map (·.1):=h.resolve_left hk
   obtain⟨i,h1,⟨b,h2⟩,h3⟩:=ZnE hn.2 h (j+1)
   refine⟨i+1,?_,⟨b,h2⟩,fun t=> ?_⟩
   ·have e2:ZCy (e::l) k=ZCy l k:=by
     show(if e.1=k then e.2 else ZCy l k)=_
     rw[if_neg (fun hh=> hk hh.symm)]
    rw[if_neg hk,h1,e2,show j+1+i=j+(i+1) by omega]
   ·unfold ZCQ
    rw[if_neg (fun hh=> hk hh.symm)]
    show(nv e.1,V.bool e.2)::ZCI (ZCQ l k t)=_
    rw[h3];rfl
theorem ZCa {l:List (Nat×Bool)} {k:Nat} {t:Bool} (h:k∉l.map (·.1)):ZCQ l k t=l++[(k,t)]:=by
 induction l with
 |nil=> rfl
 |cons e l ih=>
  rw[List.map_cons,List.mem_cons,not_or] at h
  unfold ZCQ
  rw[if_neg (fun hh=> h.1 hh.symm),ih h.2];rfl
theorem ZB9 (l:List (Nat×Bool)) (k:Nat) (t:Bool):(ZCQ l k t).map (·.1)=ZCs (l.map (·.1)) k:=by
 induction l with
 |nil=> rfl
 |cons e l ih=>
  unfold ZCQ
  by_cases hk:e.1=k
  ·rw[if_pos hk]
   unfold ZCs
   rw[if_pos (by simp[hk])];simp[hk]
  ·rw[if_neg hk,List.map_cons,ih]
   unfold ZCs
   by_cases hm:k∈l.map (·.1)
   ·rw[if_pos hm,if_pos (by simp only[List.map_cons,List.mem_cons];exact .inr hm)];rfl
   ·rw[if_neg hm,if_neg (by simp only[List.map_cons,List.mem_cons,not_or];exact⟨fun h=> hk h.symm,hm⟩)];rfl
theorem Zmz {l:List Nat} {k:Nat} (h:l.Nodup):(ZCs l k).Nodup:=by
 unfold ZCs
 split
 ·exact h
 ·rename_i hk
  rw[List.nodup_append]
  exact⟨h,by simp,fun a ha b hb=> by simp at hb;subst hb;rintro rfl;exact hk ha⟩
section
variable {get:Nat→Blk} {r ver k:Nat} {l:List (Nat×Bool)}
theorem ZAy (hg:get r=.map (ZCI l) ver) (hn:(l.map (·.1)).Nodup):lookup Tryz.prog get 87 (.map r) (nv k) false=some {v:=.bool (ZCy l k),rd:=[r]}:=by
 unfold lookup
 by_cases hk:k∈l.map (·.1)
 ·obtain⟨i,h1,_⟩:=ZnE hn hk 0
  simp only[ZG3,mapOf,hg,Zul,if_true,h1]
  rfl
 ·rw[ZAY hk]
  simp only[ZG3,mapOf,hg,Zul,if_true,ZnD hk,ZKo]
  rfl
theorem ZAE {t:Bool} (hg:get r=.map (ZCI l) ver) (hn:(l.map (·.1)).Nodup):mapUpdate Tryz.prog get 87 (.map r) (nv k) (.bool t)=some {v:=ZmM,rd:=[r],wr:=[(r,.map (ZCI (ZCQ l k t)) (ver+1))]}:=by
 unfold mapUpdate
 simp only[ZG3,hg,Zul,if_true]
 by_cases hk:k∈l.map (·.1)
 ·obtain⟨i,h1,⟨b,h2⟩,h3⟩:=ZnE hn hk 0
  rw[Nat.zero_add] at h1
  simp only[h1,h2]
  rw[if_pos,h3]
  show sameKey (nv k) (nv k)=true
  simp[sameKey,ZF0,ZFZ]
 ·simp only[ZnD hk]
  rw[ZCa hk,←ZAK];rfl
end
def lookW (r:Nat) (b:Blk) (k:V):Option Eff:=lookup Tryz.prog (fun _=> b) 87 (.map r) k false
theorem Zi4 {get:Nat→Blk} {r:Nat} {k:V}:lookup Tryz.prog get 87 (.map r) k false=lookW r (get r) k:=by
 simp only[lookW,lookup,mapOf]
def ZGW (r:Nat) (b:Blk) (k v:V):Option Eff:=mapUpdate Tryz.prog (fun _=> b) 87 (.map r) k v
theorem Zi5 {get:Nat→Blk} {r:Nat} {k v:V}:mapUpdate Tryz.prog get 87 (.map r) k v=ZGW r (get r) k v:=by
 simp only[ZGW,mapUpdate,ZG3]
def tr (l:List Nat):List (Nat×Bool):=l.map fun k=> (k,true)
theorem Zuq (l:List Nat):(tr l).map (·.1)=l:=by
 unfold tr;rw[List.map_map];exact List.map_id' l
theorem ZAF (l:List Nat) (k:Nat):ZCy (tr l) k=decide (k∈l):=by
 induction l with
 |nil=> simp[tr,ZCy]
 |cons a l ih=>
  show(if a=k then true else ZCy (tr l) k)=_
  rw[ih]
  by_cases h:a=k
  ·subst h;simp
  ·rw[if_neg h]
   have:(k∈a::l)↔k∈l:=by rw[List.mem_cons];exact⟨fun hh=> hh.resolve_left fun e=> h e.symm,.inr⟩
   simp[this]
theorem ZCc (l:List Nat) (k:Nat):ZCQ (tr l) k true=tr (ZCs l k):=by
 induction l with
 |nil=> rfl
 |cons a l ih=>
  show(if a=k then (k,true)::tr l else (a,true)::ZCQ (tr l) k true)=_
  by_cases h:a=k
  ·rw[if_pos h]
   unfold ZCs
   rw[if_pos (by simp[h])];rw[h];rfl
  ·rw[if_neg h,ih]
   unfold ZCs
   by_cases hm:k∈l
   ·rw[if_pos hm,if_pos (List.mem_cons_of_mem _ hm)];rfl
   ·rw[if_neg hm,if_neg (by rw[List.mem_cons,not_or];exact⟨fun e=> h e.symm,hm⟩)];rfl
theorem ZAz {r ver k:Nat} {l:List Nat} (hn:l.Nodup):lookW r (.map (ZCI (tr l)) ver) (nv k)=some {v:=.bool (decide (k∈l)),rd:=[r]}:=by
 rw[←ZAF];exact ZAy rfl (by rw[Zuq];exact hn)
theorem Zun {r ver k:Nat} {l:List Nat} (hn:l.Nodup):ZGW r (.map (ZCI (tr l)) ver) (nv k) (.bool true)=some {v:=ZmM,rd:=[r],wr:=[(r,.map (ZCI (tr (ZCs l k))) (ver+1))]}:=by
 rw[←ZCc];exact ZAE rfl (by rw[Zuq];exact hn)
attribute [local simp] ZCl ZF JC JB ZR ZS Zo ZE Jx Jw Jq Zw Zk S_h ZH Zz ZM ZK ZL zt ZO ZN Z7 Zj Jp Z8 JD JE Zt Z0 ZCD ZP ZQ zq zB zz zA zo Z5 zr zO Jy Jz JG JH Z1 Z2 Z3 Z4 ZI Zy JF ZT ZW ZB ZA ZY ZX ZZ ZnB Zi3 V.ones Je Jd Jh Jg Jf Ji Jn Jo Jm ZV Jk Jl Jj zK ZU zL JA Jt Js Ju Jr Jv Ja Jb Jc Z9 max2 cond_true cond_false List.nil_append List.cons_append ZmX ZmW ZkS ZqS ZqT ZqU ZkZ Zk6 Zlk Zsg Zsh Zsi Zlt Zt3 Zt4 ZqY ZqV ZqW ZqX ZqZ Zq1 Zq3 Zt5 Zq4 Zrj Zrf Zrg Zrh Zri Zre Zq5 Zq6 Zq7 Zq8 Zq9 Zra Zrb Zrc Zrd Zlf ZkV Zrk Zrl Zrm ZkX ZkY Zrn Zro Zrv Zrq Zrr Zrs Zrt Zru Zrw Zry ZrA Zrp ZrK ZrB ZrC ZrD ZrE ZrF ZrG ZrH ZrI ZrJ Zk2 Zk8 ZrL ZrM ZrN ZrO ZrP ZrQ Zk9 ZrS ZrV ZrT ZrU ZrW ZrX ZrZ Zr1 ZiL ZiM ZiO Zr9 Zr5 Zr6 Zr7 Zr8 ZiP Zsd Zsa Zsb Zsc ZiQ Zse Zsf Zsn Zsj Zsk Zsl Zsm Zso Zsq Zss Zlm ZiS ZiU ZiV ZsG ZsC ZsD ZsE ZsF ZsH ZsJ ZsL Zls Zlv ZsM ZsN ZsO ZsP Zlx Zly ZsQ ZsR ZsS ZsT ZsU ZsV ZsW ZsX ZsY ZsZ ZlA ZiX Zs4 Zs0 Zs1 Zs2 Zs3 ZiY Zs5 Ztd Zs8 Zs9 Zta Ztb Ztc Ztf Zs7 ZlD ZlH Ztg Zth Zts ZtD ZtF ZtG ZtH ZtI ZtJ ZtK Zti Ztj Ztk Ztl Ztm Ztn Zto Ztp Ztq Ztr Ztt Ztu Ztv Ztw Ztx Zty Ztz ZtA ZtB ZtC ZtE ZlJ ZlK ZtL ZtM ZtN ZtO ZtP ZtQ ZtR ZtS ZtT ZlL ZtU ZtV ZtW ZtX ZtY ZtZ Zt0 Zt1 Zt2 ZiT Zst Zsu Zsv Zsw Zsx Zsy Zsz ZsA ZsB ZiN Zr2 Zr3 Zr4
attribute [local simp] ld3 ZC2 ZCB ZDp ZCG ZCN ZCP ZDo ZCH JR JS sz3 ZCR ZCx ZCz ZDr sp2 sp3 JO zK zL JY JX Zi4 Zi5 clc
attribute [-simp] zo zr zq zz zA zB zO max2
theorem ge0 {a:Nat}:ZmK .geq .i64 (a:Int) .i64 0=some (.bool true):=by rw[zO,decide_eq_true (by omega)]
theorem ZJH:ZmK .geq .i64 (-1) .i64 0=some (.bool false):=rfl
set_option maxHeartbeats 2000000 in
theorem ZAT {I:Ids} {n m nb ra:Nat} {av:V} {A:Cl} (hn:A.nxt.length=n) (hn2:n < 100000) (lc:I.c < nb) (ln:I.rn < nb) (la:ra < nb) (d1:I.c≠ra) (d2:I.rn≠ra):∀(fu:Nat) (at':Option Nat) (acc acc':List Nat) (f:Nat→V) (g:Nat→Blk) (d:List Nat),upF fu A.nxt at' acc=some acc'→acc.Nodup→f 0=.ptr I.c 0→f 10=.map ra→f 11=ont at'→g I.c=.row 0 (clc I n m av)→g I.rn=.row 0 (ZDb A.nxt)→(∃ver,g ra=.map (ZCI (tr acc)) ver)→
 ZhY 124 (fun e f' nb' g'=> e=.exit 0∧nb'=nb∧acc'.Nodup∧(∃ver,g' ra=.map (ZCI (tr acc')) ver)∧(∀r,r≠ra→g' r=g r)∧∀t,t < 11→f' t=f t) (C 29 ZiW (S 124 f [] (mkH nb g d))):=by
 intro fu
 induction fu with
 |zero=> intro at' acc acc' f g d h;cases h
 |succ fu ih=>
  intro at' acc acc' f g d h hnd f0 f10 f11 hc hrn hra
  cases at' with
  |none=>
   cases h
   rw[Zxa]
   simp(disch:=first|assumption|decide|omega)[f11,ont,ZJH]
   refine ZhY.mk ?_
   refine⟨rfl,rfl,hnd,hra,fun _ _=> rfl,fun t ht=> ?_⟩
   simp only[zt];repeat (rw[if_neg (by omega)])
  |some t=>
   simp only[upF] at h
   split at h
   case h_2=> cases h
   rename_i old hold
   have hlt:=(List.getElem?_eq_some_iff.1 hold).1
   have ht:t < n:=by omega
   have ht':t≤n:=by omega
   have h1:=zX6 hold
   obtain⟨ver,hra⟩:=hra
   have hmw:=Zun (r:=ra) (ver:=ver) (k:=t) hnd
   have f11:f 11=nv t:=f11
   rw[Zxa]
   simp(disch:=first|assumption|decide|omega)[f0,f10,f11,ge0,hra,hmw,hc,hrn,h1,zCC,hn,ht']
   refine(ih old (ZCs acc t) acc' _ _ _ h (Zmz hnd) ?_ ?_ ?_ ?_ ?_ ?_).weak ?_
   ·simp[f0]
   ·simp[f10]
   ·simp
   ·simp(disch:=first|assumption|decide|omega)[hc]
   ·simp(disch:=first|assumption|decide|omega)[hrn]
   ·exact⟨ver+1,by simp⟩
   ·rintro e f' nb' g' ⟨rfl,rfl,q1,q2,q3,q4⟩
    refine⟨rfl,rfl,q1,q2,fun r hr=> ?_,fun t ht=> ?_⟩
    ·rw[q3 r hr];simp[hr]
    ·rw[q4 t ht]
     simp only[zt];repeat (rw[if_neg (by omega)])
set_option maxHeartbeats 2000000 in
theorem ZAP {I:Ids} {n m nb ra:Nat} {av:V} {A:Cl} {up:List Nat} {ver c:Nat} {g:Nat→Blk} {d:List Nat} (hn:A.nxt.length=n) (hn2:n < 100000) (lc:I.c < nb) (ln:I.rn < nb) (la:ra < nb) (hnd:up.Nodup) (hc:g I.c=.row 0 (clc I n m av)) (hrn:g I.rn=.row 0 (ZDb A.nxt)) (hra:g ra=.map (ZCI (tr up)) ver):∀(fu b:Nat) (f:Nat→V),ZFP fu A.nxt up b=some c→f 0=.ptr I.c 0→f 10=.map ra→f 12=nv b→
 ZhY 124 (fun e f' nb' g'=> e=.exit 2∧nb'=nb∧g'=g∧f' 12=nv c∧∀t,t < 12→f' t=f t) (C 29 ZiK (S 124 f [] (mkH nb g d))):=by
 intro fu
 induction fu with
 |zero=> intro b f h;cases h
 |succ fu ih=>
  intro b f h f0 f10 f12
  have hlw:=ZAz (r:=ra) (ver:=ver) (k:=b) hnd
  unfold ZFP at h
  by_cases hb:b∈up
  ·rw[if_pos hb] at h
   cases h
   rw[decide_eq_true hb] at hlw
   rw[Zw8]
   simp(disch:=first|assumption|decide|omega)[f10,f12,hra,hlw]
   refine ZhY.mk ?_
   refine⟨rfl,rfl,rfl,by simp[f12],fun t ht=> ?_⟩
   simp only[zt];repeat (rw[if_neg (by omega)])
  ·rw[if_neg hb] at h
   split at h
   case h_2=> cases h
   rename_i u hu
   have hlt:=(List.getElem?_eq_some_iff.1 hu).1
   have ht:b < n:=by omega
   have ht':b≤n:=by omega
   have h1:=zX6 hu
   rw[decide_eq_false hb] at hlw
   rw[Zw8]
   simp(disch:=first|assumption|decide|omega)[f0,f10,f12,hra,hlw,hc,hrn,h1,zCC,hn,ht']
   refine(ih u _ h ?_ ?_ ?_).weak ?_
   ·simp[f0]
   ·simp[f10]
   ·simp[ont]
   ·rintro e f' nb' g' ⟨rfl,rfl,rfl,q1,q2⟩
    refine⟨rfl,rfl,rfl,q1,fun t ht=> ?_⟩
    rw[q2 t ht]
    simp only[zt];repeat (rw[if_neg (by omega)])
end
end
section
open Go Go.Ae
attribute [local simp] ZCl ZF JC JB ZR ZS Zo ZE Jx Jw Jq Zw Zk S_h ZH Zz ZM ZK ZL zt ZO ZN Z7 Zj Jp Z8 JD JE Zt Z0 ZCD ZP ZQ zq zB zz zA zo Z5 zr zO Jy Jz JG JH Z1 Z2 Z3 Z4 ZI Zy JF ZT ZW ZB ZA ZY ZX ZZ ZnB Zi3 V.ones Je Jd Jh Jg Jf Ji Jn Jo Jm ZV Jk Jl Jj zK ZU zL JA Jt Js Ju Jr Jv Ja Jb Jc Z9 max2 cond_true cond_false List.nil_append List.cons_append ZmX ZmW ZkS ZqS ZqT ZqU ZkZ Zk6 Zlk Zsg Zsh Zsi Zlt Zt3 Zt4 ZqY ZqV ZqW ZqX ZqZ Zq1 Zq3 Zt5 Zq4 Zrj Zrf Zrg Zrh Zri Zre Zq5 Zq6 Zq7 Zq8 Zq9 Zra Zrb Zrc Zrd Zlf ZkV Zrk Zrl Zrm ZkX ZkY Zrn Zro Zrv Zrq Zrr Zrs Zrt Zru Zrw Zry ZrA Zrp ZrK ZrB ZrC ZrD ZrE ZrF ZrG ZrH ZrI ZrJ Zk2 Zk8 ZrL ZrM ZrN ZrO ZrP ZrQ Zk9 ZrS ZrV ZrT ZrU ZrW ZrX ZrZ Zr1 ZiL ZiM ZiO Zr9 Zr5 Zr6 Zr7 Zr8 ZiP Zsd Zsa Zsb Zsc ZiQ Zse Zsf Zsn Zsj Zsk Zsl Zsm Zso Zsq Zss Zlm ZiS ZiU ZiV ZsG ZsC ZsD ZsE ZsF ZsH ZsJ ZsL Zls Zlv ZsM ZsN ZsO ZsP Zlx Zly ZsQ ZsR ZsS ZsT ZsU ZsV ZsW ZsX ZsY ZsZ ZlA ZiX Zs4 Zs0 Zs1 Zs2 Zs3 ZiY Zs5 Ztd Zs8 Zs9 Zta Ztb Ztc Ztf Zs7 ZlD ZlH Ztg Zth Zts ZtD ZtF ZtG ZtH ZtI ZtJ ZtK Zti Ztj Ztk Ztl Ztm Ztn Zto Ztp Ztq Ztr Ztt Ztu Ztv Ztw Ztx Zty Ztz ZtA ZtB ZtC ZtE ZlJ ZlK ZtL ZtM ZtN ZtO ZtP ZtQ ZtR ZtS ZtT ZlL ZtU ZtV ZtW ZtX ZtY ZtZ Zt0 Zt1 Zt2 ZiT Zst Zsu Zsv Zsw Zsx Zsy Zsz ZsA ZsB ZiN Zr2 Zr3 Zr4
section
attribute [local simp] ld3 ZC2 ZCB ZDp ZCG ZCN ZCP ZDo ZCH JR JS sz3 ZCR ZCx ZCz ZDr sp2 sp3 JO zK zL JY JX Zi4 Zi5 clc
attribute [-simp] zo zr zq zz zA zB zO max2 ZiS ZiT ZiU ZiV Zls Zlx ZlA ZiX ZlD ZlJ ZlH ZlK ZlL Zlv Zly ZiY
structure XC (I:Ids) (n m:Nat) (av:V) (A:Cl) (rd rm nb0:Nat) (g0:Nat→Blk) (D M:List Nat) (nb:Nat) (g:Nat→Blk):Prop where
 lc:I.c < nb0
 ln:I.rn < nb0
 lw:I.rw < nb0
 ld:rd < nb0
 lm:rm < nb0
 d1:rd≠I.c
 d2:rd≠I.rn
 d3:rd≠I.rw
 d4:rm≠I.c
 d5:rm≠I.rn
 d6:rm≠I.rw
 d7:rd≠rm
 gc:g0 I.c=.row 0 (clc I n m av)
 gn:g0 I.rn=.row 0 (ZDb A.nxt)
 gw:g0 I.rw=.row 0 (ZCq A.why)
 hb:nb0≤nb
 fr:∀r,r < nb0→r≠rd→r≠rm→g r=g0 r
 hd:∃ver,g rd=.map (ZCI (tr D)) ver
 hm:∃ver,g rm=.map (ZCI (tr M)) ver
 nd:D.Nodup
 nm:M.Nodup
section
variable {I:Ids} {n m:Nat} {av:V} {A:Cl} {rd rm nb0:Nat} {g0:Nat→Blk} {D M:List Nat} {nb:Nat} {g:Nat→Blk}
theorem XC.base (h:XC I n m av A rd rm nb0 g0 D M nb g):XC I n m av A rd rm nb g D M nb g:=by
 have hb:=h.hb
 have lc:=h.lc
 have ln:=h.ln
 have lw:=h.lw
 have ld:=h.ld
 have lm:=h.lm
 exact⟨by omega,by omega,by omega,by omega,by omega,h.d1,h.d2,h.d3,h.d4,h.d5,h.d6,h.d7,by rw[h.fr _ lc h.d1.symm h.d4.symm];exact h.gc,by rw[h.fr _ ln h.d2.symm h.d5.symm];exact h.gn,by rw[h.fr _ lw h.d3.symm h.d6.symm];exact h.gw,Nat.le_refl _,fun _ _ _ _=> rfl,h.hd,h.hm,h.nd,h.nm⟩
theorem XC.after {D' M':List Nat} {nb':Nat} {g':Nat→Blk} (h:XC I n m av A rd rm nb0 g0 D M nb g) (h':XC I n m av A rd rm nb g D' M' nb' g'):XC I n m av A rd rm nb0 g0 D' M' nb' g':=
 ⟨h.lc,h.ln,h.lw,h.ld,h.lm,h.d1,h.d2,h.d3,h.d4,h.d5,h.d6,h.d7,h.gc,h.gn,h.gw,Nat.le_trans h.hb h'.hb,fun r hr h1 h2=> by
  have:=h.hb
  rw[h'.fr r (by omega) h1 h2,h.fr r hr h1 h2],h'.hd,h'.hm,h'.nd,h'.nm⟩
theorem XC.rc (h:XC I n m av A rd rm nb0 g0 D M nb g):g I.c=.row 0 (clc I n m av)∧g I.rn=.row 0 (ZDb A.nxt)∧g I.rw=.row 0 (ZCq A.why):=
 ⟨h.base.gc,h.base.gn,h.base.gw⟩
theorem XC.grow {nb':Nat} {g':Nat→Blk} (h:XC I n m av A rd rm nb0 g0 D M nb g) (hn:nb≤nb') (hg:∀r,r < nb→g' r=g r):XC I n m av A rd rm nb0 g0 D M nb' g':=by
 have hb:=h.hb
 have ld:=h.ld
 have lm:=h.lm
 exact⟨h.lc,h.ln,h.lw,h.ld,h.lm,h.d1,h.d2,h.d3,h.d4,h.d5,h.d6,h.d7,h.gc,h.gn,h.gw,by omega,fun r hr h1 h2=> by rw[hg r (by omega),h.fr r hr h1 h2],by rw[hg rd (by omega)];exact h.hd,by rw[hg rm (by omega)];exact h.hm,h.nd,h.nm⟩
theorem XC.setD {D':List Nat} {ver:Nat} {g':Nat→Blk} (h:XC I n m av A rd rm nb0 g0 D M nb g) (hd:g' rd=.map (ZCI (tr D')) ver) (hg:∀r,r≠rd→g' r=g r) (hn:D'.Nodup):XC I n m av A rd rm nb0 g0 D' M nb g':=
 ⟨h.lc,h.ln,h.lw,h.ld,h.lm,h.d1,h.d2,h.d3,h.d4,h.d5,h.d6,h.d7,h.gc,h.gn,h.gw,h.hb,fun r hr h1 h2=> by rw[hg r h1,h.fr r hr h1 h2],⟨_,hd⟩,by rw[hg rm h.d7.symm];exact h.hm,hn,h.nm⟩
theorem XC.setM {M':List Nat} {ver:Nat} {g':Nat→Blk} (h:XC I n m av A rd rm nb0 g0 D M nb g) (hm:g' rm=.map (ZCI (tr M')) ver) (hg:∀r,r≠rm→g' r=g r) (hn:M'.Nodup):XC I n m av A rd rm nb0 g0 D M' nb g':=
 ⟨h.lc,h.ln,h.lw,h.ld,h.lm,h.d1,h.d2,h.d3,h.d4,h.d5,h.d6,h.d7,h.gc,h.gn,h.gw,h.hb,fun r hr h1 h2=> by rw[hg r h2,h.fr r hr h1 h2],by rw[hg rd h.d7];exact h.hd,⟨_,hm⟩,h.nd,hn⟩
end
structure RG (I:Ids) (rd rm c i t:Nat) (fs:V) (f:Nat→V):Prop where
 f0:f 0=.ptr I.c 0
 f3:f 3=.map rd
 f4:f 4=.map rm
 f12:f 12=nv c
 f15:f 15=nv t
 f46:f 46=fs
 f47:f 47=nv 2
 f48:f 48=nv i
theorem RG.keep {I:Ids} {rd rm c i t:Nat} {fs:V} {f f':Nat→V} (h:RG I rd rm c i t fs f) (hf:f' 0=f 0∧f' 3=f 3∧f' 4=f 4∧f' 12=f 12∧f' 15=f 15∧f' 46=f 46∧f' 47=f 47∧f' 48=f 48):RG I rd rm c i t fs f':=by
 obtain⟨h0,h3,h4,h12,h15,h46,h47,h48⟩:=hf
 exact⟨h0.trans h.f0,h3.trans h.f3,h4.trans h.f4,h12.trans h.f12,h15.trans h.f15,h46.trans h.f46,h47.trans h.f47,h48.trans h.f48⟩
structure TwoR (nb0:Nat) (p q:Key) (f:Nat→V) (nb:Nat) (g:Nat→Blk):Prop where
 ex:∃tp tq,nb0≤tp∧tp < nb∧nb0≤tq∧tq < nb∧f 17=.ptr tp 0∧f 18=.ptr tq 0∧g tp=.row 0 [nv p.1,nv p.2]∧g tq=.row 0 [nv q.1,nv q.2]
abbrev Ex0:=Nat→Nat→List Nat→List Nat→Option (List Nat×List Nat)
def XSp (I:Ids) (n m:Nat) (av:V) (A:Cl) (rd rm:Nat) (ex:Ex0):Prop:=∀(a b:Nat) (D M D' M':List Nat) (nb:Nat) (g:Nat→Blk) (d:List Nat),ex a b D M=some (D',M')→XC I n m av A rd rm nb g D M nb g→
 ZCm (fun _ nb' g'=> XC I n m av A rd rm nb g D' M' nb' g') ((EV Tryz.prog hs ks).call 29 [.ptr I.c 0,nv a,nv b,.map rd,.map rm] (mkH nb g d))
def ZHQ (m:Nat) (apps:List Key) (A:Cl) (ex:Ex0) (t:Nat) (D M D1 M1:List Nat):Prop:=
 (t∈D∧D1=D∧M1=M)∨(t∉D∧∃s,A.why[t]?=some s∧((0≤s.2.2∧D1=D++[t]∧M1=ZCs M s.2.2.toNat)∨
  (s.2.2 < 0∧m≤s.1∧m≤s.2.1∧∃p q D0 M0,apps[s.1 - m]?=some p∧apps[s.2.1 - m]?=some q∧ex p.1 q.1 (D++[t]) M=some (D0,M0)∧ex p.2 q.2 D0 M0=some (D1,M1))))
theorem ZCf {m:Nat} {apps:List Key} {A:Cl} {ex:Ex0} {c fu t:Nat} {D M:List Nat} {r:List Nat×List Nat} (h:ZEz m apps A ex c (fu+1) t D M=some r) (htc:t≠c):∃u D1 M1,A.nxt[t]?=some (some u)∧ZHQ m apps A ex t D M D1 M1∧ZEz m apps A ex c fu u D1 M1=some r:=by
 unfold ZEz at h
 rw[if_neg htc] at h
 split at h
 case h_2=> cases h
 rename_i u hu
 split at h
 ·rename_i htD
  exact⟨u,D,M,hu,.inl ⟨htD,rfl,rfl⟩,h⟩
 rename_i htD
 split at h
 case h_2=> cases h
 rename_i s hs
 split at h
 ·rename_i h0
  exact⟨u,_,_,hu,.inr ⟨htD,s,hs,.inl ⟨h0,rfl,rfl⟩⟩,h⟩
 rename_i h0
 split at h
 case isFalse=> cases h
 rename_i hm
 split at h
 case h_2=> cases h
 rename_i p q hp hq
 split at h
 case h_2=> cases h
 rename_i D0 M0 h1
 split at h
 case h_2=> cases h
 rename_i D1 M1 h2
 exact⟨u,D1,M1,hu,.inr ⟨htD,s,hs,.inr ⟨by omega,hm.1,hm.2,p,q,D0,M0,hp,hq,h1,h2⟩⟩,h⟩
set_option maxHeartbeats 8000000 in
theorem ZAQ {I:Ids} {n m:Nat} {apps:List Key} {av:V} {A:Cl} {rd rm nb0 c i t:Nat} {fs:V} {g0:Nat→Blk} {ex:Ex0} (hn:A.why.length=n) (hn2:n < 1000) (hm:m < 1000) (hav:apps≠[]→∃o,av=.vs (prs apps) apps.length 2 o) (hal:apps.length < 1000) (htn:t < n) (hex:XSp I n m av A rd rm ex) {D M D1 M1:List Nat} (hst:ZHQ m apps A ex t D M D1 M1) {f:Nat→V} {nb:Nat} {g:Nat→Blk} {d:List Nat} (hX:XC I n m av A rd rm nb0 g0 D M nb g) (hR:RG I rd rm c i t fs f):
 ZhY 124 (fun e f' nb' g'=> e=.normal∧XC I n m av A rd rm nb0 g0 D1 M1 nb' g'∧RG I rd rm c i t fs f') (C 29 Zlo (S 124 f [] (mkH nb g d))):=by
 rw[ZiS]
 have htn':t≤n:=by omega
 have hb:=hX.hb
 have lc:=hX.lc
 have lw:=hX.lw
 have ld:=hX.ld
 have lm:=hX.lm
 have d7:=hX.d7
 obtain⟨vd,hgd⟩:=hX.hd
 have hlw:=ZAz (r:=rd) (ver:=vd) (k:=t) hX.nd
 refine ZhY.block (Q:=fun e f' nb' g'=> (e=.exit 7∨e=.normal)∧XC I n m av A rd rm nb0 g0 D1 M1 nb' g'∧RG I rd rm c i t fs f') ?_ (fun f' nb' g' h=> ⟨rfl,h.2⟩) (fun e f' nb' g' hne h=> ⟨h.1.resolve_left hne,h.2⟩)
 rw[ZiU]
 have f3:=hR.f3
 have f15:=hR.f15
 rcases hst with ⟨htD,rfl,rfl⟩|⟨htD,s,hs,hst⟩
 ·rw[decide_eq_true htD] at hlw
  rw[ZiV]
  simp(disch:=first|assumption|decide|omega)[f3,f15,hgd,hlw]
  refine ZhY.mk ?_
  exact⟨.inl rfl,hX,hR.keep (by simp)⟩
 rw[decide_eq_false htD] at hlw
 refine ZhY.seq (P:=fun f' nb' g'=> XC I n m av A rd rm nb0 g0 D M nb' g'∧RG I rd rm c i t fs f') ?_ ?_
 ·rw[ZiV]
  simp(disch:=first|assumption|decide|omega)[f3,f15,hgd,hlw]
  refine ZhY.mk ?_
  exact⟨rfl,hX,hR.keep (by simp)⟩
 clear hX hR hb lc lw ld lm hgd f3 f15
 rintro f nb g d ⟨hX,hR⟩
 rw[Zls]
 have hnd1:(D++[t]).Nodup:=by
  have:=Zmz (k:=t) hX.nd
  unfold ZCs at this
  rw[if_neg htD] at this
  exact this
 have hins:ZCs D t=D++[t]:=by unfold ZCs;rw[if_neg htD]
 refine ZhY.seq (P:=fun f' nb' g'=> XC I n m av A rd rm nb0 g0 (D++[t]) M nb' g'∧RG I rd rm c i t fs f') ?_ ?_
 ·obtain⟨vd,hgd⟩:=hX.hd
  have hmw:=Zun (r:=rd) (ver:=vd) (k:=t) hX.nd
  rw[hins] at hmw
  have hb:=hX.hb
  have ld:=hX.ld
  have f3:=hR.f3
  have f15:=hR.f15
  rw[Zlv]
  simp(disch:=first|assumption|decide|omega)[f3,f15,hgd,hmw]
  refine ZhY.mk ?_
  exact⟨rfl,hX.setD (ver:=vd+1) (by simp) (fun r hr=> by simp[hr]) hnd1,hR.keep (by simp)⟩
 clear hX hR
 rintro f nb g d ⟨hX,hR⟩
 rw[Zlx]
 refine ZhY.seq (P:=fun f' nb' g'=> XC I n m av A rd rm nb0 g0 (D++[t]) M nb' g'∧RG I rd rm c i t fs f'∧∃ts,nb0≤ts∧ts < nb'∧f' 16=.ptr ts 0∧g' ts=.row 0 (tri s)) ?_ ?_
 ·obtain⟨hgc,_,hgw⟩:=hX.rc
  have hb:=hX.hb
  have lc:=hX.lc
  have lw:=hX.lw
  have h1:=zZb hs
  have f0:=hR.f0
  have f15:=hR.f15
  have htl:=zkr A.why
  rw[Zly]
  have hle:t * 3≤A.why.length * 3:=by omega
  simp(disch:=first|assumption|decide|omega)[f0,f15,hgc,hgw,htl,hle,h1,tri]
  refine ZhY.mk ?_
  refine⟨rfl,hX.grow (by omega) (fun r hr=> ?_),hR.keep (by simp),nb,hb,by omega,by simp,by simp⟩
  have:¬r=nb:=by omega
  simp(disch:=first|assumption|decide|omega)
 clear hX hR
 rintro f nb g d ⟨hX,hR,ts,hts0,hts,f16,hgt⟩
 rw[ZlA]
 have hb:=hX.hb
 have lc:=hX.lc
 have ld:=hX.ld
 have lm:=hX.lm
 have ntm:¬ts=rm:=by omega
 have ntd:¬ts=rd:=by omega
 rcases hst with ⟨h0,rfl,rfl⟩|⟨h0,hm1,hm2,p,q,D0,M0,hp,hq,hx1,hx2⟩
 ·obtain⟨z,hz⟩:∃z:Nat,s.2.2=(z:Int):=⟨s.2.2.toNat,by omega⟩
  have hzt:s.2.2.toNat=z:=by omega
  rw[hzt]
  obtain⟨vm,hgm⟩:=hX.hm
  have hmw:=Zun (r:=rm) (ver:=vm) (k:=z) hX.nm
  have f4:=hR.f4
  have w1:=ge0 (a:=z)
  rw[ZiX]
  unfold tri at hgt
  rw[hz] at hgt
  simp(disch:=first|assumption|decide|omega)[ZiY,f4,f16,hgt,w1,hgm,hmw]
  refine ZhY.mk ?_
  exact⟨.inl rfl,hX.setM (ver:=vm+1) (by simp) (fun r hr=> by simp[hr]) (Zmz hX.nm),hR.keep (by simp)⟩
 ·have hap:apps≠[]:=fun hh=> by rw[hh] at hp;cases hp
  obtain⟨o,hav⟩:=hav hap
  have jl1:=(List.getElem?_eq_some_iff.1 hp).1
  have jl2:=(List.getElem?_eq_some_iff.1 hq).1
  have w1:ZmK .geq .i64 s.2.2 .i64 0=some (.bool false):=by rw[zO,decide_eq_false (by omega)]
  refine ZhY.seq (P:=fun f' nb' g'=> XC I n m av A rd rm nb0 g0 (D++[t]) M nb' g'∧RG I rd rm c i t fs f'∧nb'=nb∧f' 16=.ptr ts 0∧g' ts=.row 0 (tri s)) ?_ ?_
  ·rw[ZiX]
   have hgt':=hgt
   unfold tri at hgt'
   simp(disch:=first|assumption|decide|omega)[ZiY,f16,hgt',w1]
   refine ZhY.mk ?_
   exact⟨rfl,hX,hR.keep (by simp),rfl,by simp[f16],hgt⟩
  clear hX hR f16 hgt
  rintro f nb1 g d ⟨hX,hR,rfl,f16,hgt⟩
  unfold tri at hgt
  rw[ZlD]
  obtain⟨j1,hj1,ej1⟩:∃j,ZmK .sub .i64 (s.1:Int) .i64 (m:Int)=some (nv j)∧j=s.1 - m:=⟨_,ZDT hm1 (by omega),rfl⟩
  obtain⟨j2,hj2,ej2⟩:∃j,ZmK .sub .i64 (s.2.1:Int) .i64 (m:Int)=some (nv j)∧j=s.2.1 - m:=⟨_,ZDT hm2 (by omega),rfl⟩
  rw[←ej1] at hp jl1
  rw[←ej2] at hq jl2
  have hp4:=zjj hp
  have hq4:=zjj hq
  refine ZhY.seq (P:=fun f' nb' g'=> XC I n m av A rd rm nb0 g0 (D++[t]) M nb' g'∧RG I rd rm c i t fs f'∧TwoR nb0 p q f' nb' g') ?_ ?_
  ·obtain⟨hgc,_,_⟩:=hX.rc
   have f0:=hR.f0
   subst hav
   have n1:¬I.c=nb1:=by omega
   have n2:¬I.c=nb1+1:=by omega
   have n3:¬ts=nb1:=by omega
   have n4:¬ts=nb1+1:=by omega
   have n5:¬nb1=I.c:=by omega
   have n6:¬nb1+1=I.c:=by omega
   have n7:¬nb1=ts:=by omega
   have n8:¬nb1+1=ts:=by omega
   rw[ZlH]
   simp(disch:=first|assumption|decide|omega)[f0,f16,hgc,hgt,hj1,hj2,hp4,hq4]
   refine ZhY.mk ?_
   refine⟨rfl,hX.grow (by omega) (fun r hr=> ?_),hR.keep (by simp),⟨nb1,nb1+1,by omega,by omega,by omega,by omega,by simp,by simp,by simp,by simp⟩⟩
   have x1:¬r=nb1:=by omega
   have x2:¬r=nb1+1:=by omega
   simp(disch:=first|assumption|decide|omega)
  clear hX hR f16 hgt
  rintro f nb2 g d ⟨hX,hR,tp,tq,tp0,tp1,tq0,tq1,f17,f18,hgp,hgq⟩
  rw[ZlJ]
  refine ZhY.seq (P:=fun f' nb' g'=> XC I n m av A rd rm nb0 g0 D0 M0 nb' g'∧RG I rd rm c i t fs f'∧f' 17=.ptr tp 0∧f' 18=.ptr tq 0∧g' tp=.row 0 [nv p.1,nv p.2]∧g' tq=.row 0 [nv q.1,nv q.2]∧tp < nb'∧tq < nb') ?_ ?_
  ·obtain⟨v,nb',g',d',hcall,hX'⟩:=hex p.1 q.1 (D++[t]) M D0 M0 nb2 g d hx1 hX.base
   rw[←zwH (hint:=Cg.hs) (known:=ks) rfl] at hcall
   have f0:=hR.f0
   have f3:=hR.f3
   have f4:=hR.f4
   have hb2:=hX'.hb
   rw[ZlK]
   simp(disch:=first|assumption|decide|omega)[f0,f3,f4,f17,f18,hgp,hgq,hcall]
   refine ZhY.mk ?_
   refine⟨rfl,hX.after hX',hR.keep (by simp),by simp[f17],by simp[f18],?_,?_,by omega,by omega⟩
   ·rw[hX'.fr tp tp1 (by omega) (by omega)];exact hgp
   ·rw[hX'.fr tq tq1 (by omega) (by omega)];exact hgq
  clear hX hR f17 f18 hgp hgq
  rintro f nb3 g d ⟨hX,hR,f17,f18,hgp,hgq,tp2,tq2⟩
  obtain⟨v,nb',g',d',hcall,hX'⟩:=hex p.2 q.2 D0 M0 D1 M1 nb3 g d hx2 hX.base
  rw[←zwH (hint:=Cg.hs) (known:=ks) rfl] at hcall
  have f0:=hR.f0
  have f3:=hR.f3
  have f4:=hR.f4
  rw[ZlL]
  simp(disch:=first|assumption|decide|omega)[f0,f3,f4,f17,f18,hgp,hgq,hcall]
  refine ZhY.mk ?_
  exact⟨.inr rfl,hX.after hX',hR.keep (by simp)⟩
end
section
attribute [local simp] ld3 ZC2 ZCB ZDp ZCG ZCN ZCP ZDo ZCH JR JS sz3 ZCR ZCx ZCz ZDr sp2 sp3 JO zK zL JY JX Zi4 Zi5 clc
attribute [-simp] zo zr zq zz zA zB zO max2 ZiS ZiT ZiU ZiQ Zk9 ZkY Zlt ZkZ Zk6 Zlf ZkX Zk2 ZiM ZiN ZiO ZiP Zlm ZiL ZkS Zlk ZkV Zk8
set_option maxHeartbeats 4000000 in
theorem Zus {I:Ids} {n m:Nat} {apps:List Key} {av:V} {A:Cl} {rd rm nb0 c i:Nat} {fs:V} {g0:Nat→Blk} {ex:Ex0} (hnn:A.nxt.length=n) (hn:A.why.length=n) (hn2:n < 1000) (hm:m < 1000) (hav:apps≠[]→∃o,av=.vs (prs apps) apps.length 2 o) (hal:apps.length < 1000) (hex:XSp I n m av A rd rm ex):
 ∀(fu t:Nat) (D M D' M':List Nat) (f:Nat→V) (nb:Nat) (g:Nat→Blk) (d:List Nat),ZEz m apps A ex c fu t D M=some (D',M')→XC I n m av A rd rm nb0 g0 D M nb g→RG I rd rm c i t fs f→
 ZhY 124 (fun e f' nb' g'=> e=.exit 6∧XC I n m av A rd rm nb0 g0 D' M' nb' g'∧RG I rd rm c i c fs f') (C 29 ZiR (S 124 f [] (mkH nb g d))):=by
 intro fu
 induction fu with
 |zero=> intro t D M D' M' f nb g d h;cases h
 |succ fu ih=>
  intro t D M D' M' f nb g d h hX hR
  have f12:=hR.f12
  have f15:=hR.f15
  by_cases htc:t=c
  ·subst htc
   unfold ZEz at h
   rw[if_pos rfl] at h
   cases h
   have e1:ZmK .neq .i64 (t:Int) .i64 (t:Int)=some (.bool false):=by rw[neN];simp
   rw[Zw9]
   simp(disch:=first|assumption|decide|omega)[f12,f15,e1]
   refine ZhY.mk ?_
   exact⟨rfl,hX,hR.keep (by simp)⟩
  ·obtain⟨u,D1,M1,hu,hst,hw⟩:=ZCf h htc
   have htl:=(List.getElem?_eq_some_iff.1 hu).1
   have htn:t < n:=by omega
   have htn':t≤n:=by omega
   have e1:ZmK .neq .i64 (t:Int) .i64 (c:Int)=some (.bool true):=by rw[neN];simp[htc]
   rw[Zw9]
   simp(disch:=first|assumption|decide|omega)[f12,f15,e1]
   rw[Zlm]
   refine ZhY.seq (P:=fun f' nb' g'=> XC I n m av A rd rm nb0 g0 D1 M1 nb' g'∧RG I rd rm c i u fs f') ?_ ?_
   ·refine ZhY.seq (P:=fun f' nb' g'=> XC I n m av A rd rm nb0 g0 D1 M1 nb' g'∧RG I rd rm c i t fs f') (ZAQ hn hn2 hm hav hal htn hex hst hX (hR.keep (by simp))) ?_
    clear hX hR f12 f15
    rintro f nb g d ⟨hX,hR⟩
    obtain⟨hgc,hgn,_⟩:=hX.rc
    have hb:=hX.hb
    have lc:=hX.lc
    have ln:=hX.ln
    have f0:=hR.f0
    have f15:=hR.f15
    have h1:=zX6 hu
    rw[ZiT]
    simp(disch:=first|assumption|decide|omega)[f0,f15,hgc,hgn,zCC,hnn,htn',h1]
    refine ZhY.mk ?_
    refine⟨rfl,hX,⟨?_,?_,?_,?_,?_,?_,?_,?_⟩⟩
    ·simp[f0]
    ·simp[hR.f3]
    ·simp[hR.f4]
    ·simp[hR.f12]
    ·simp[ont]
    ·simp[hR.f46]
    ·simp[hR.f47]
    ·simp[hR.f48]
   ·clear hX hR
    rintro f nb g d ⟨hX,hR⟩
    exact ih u D1 M1 D' M' f nb g d hw hX hR
theorem ZJN (a b:Int) (nid:Nat):ZDl Tryz.prog false 27 2 [(0,.int .i64 a),(1,.int .i64 b)] nid=some {v:=.vs [.int .i64 a,.int .i64 b] 2 1 .tight}:=by
 unfold ZDl
 rw[show ZE1 Tryz.prog 27 2 [(0,.int .i64 a),(1,.int .i64 b)]=some ([.int .i64 a,.int .i64 b],1) by kernel_rfl]
 rfl
theorem ZJJ (x y:V):indexAddr Tryz.prog 27 (.vs [x,y] 2 1 .tight) (nv 0)=some (.iptr [x,y]):=ZCK (n:=0) (len:=2) (cs:=[x,y]) (sz:=1) (o:=.tight) (by omega)
theorem ZJK (x y:V):indexAddr Tryz.prog 27 (.vs [x,y] 2 1 .tight) (nv 1)=some (.iptr [y]):=ZCK (n:=1) (len:=2) (cs:=[x,y]) (sz:=1) (o:=.tight) (by omega)
theorem ZJM (x y:V) (get:Nat→Blk) (nid:Nat):ZmL Tryz.prog false get nid .len [27] [.vs [x,y] 2 1 .tight]=some {v:=.int .i64 2}:=by simp[ZmL,ZDQ,ZEx]
set_option maxHeartbeats 4000000 in
theorem ZAO {I:Ids} {n m:Nat} {apps:List Key} {av:V} {A:Cl} {rd rm:Nat} (hnn:A.nxt.length=n) (hn:A.why.length=n) (hn2:n < 1000) (hm:m < 1000) (hav:apps≠[]→∃o,av=.vs (prs apps) apps.length 2 o) (hal:apps.length < 1000):∀k,XSp I n m av A rd rm (ZFv m apps A k):=by
 intro k
 induction k with
 |zero=> intro a b D M D' M' nb g d h;cases h
 |succ k ih=>
  intro a b D M D' M' nb g d h hX
  unfold ZFv at h
  split at h
  case h_2=> cases h
  rename_i up hup
  split at h
  case h_2=> cases h
  rename_i c hcom
  split at h
  case h_2=> cases h
  rename_i D1 M1 hw1
  have lc:=hX.lc
  have ln:=hX.ln
  have lw:=hX.lw
  have ld:=hX.ld
  have lm:=hX.lm
  rw[ZBE _ (by simp),ZmW]
  refine ZhY.rets (n:=124) (Q:=fun e f' nb' g'=> e=.normal∧XC I n m av A rd rm nb g D' M' nb' g') ?_ ?_
  ·refine ZhY.seq (P:=fun f' nb' g'=> nb'=nb+1∧(∀r,r < nb→g' r=g r)∧g' nb=.map (ZCI (tr [])) 0∧f' 0=.ptr I.c 0∧f' 1=nv a∧f' 2=nv b∧f' 3=.map rd∧f' 4=.map rm∧f' 10=.map nb) ?_ ?_
   ·rw[ZkS]
    simp(disch:=first|assumption|decide|omega)
    refine ZhY.mk ?_
    refine⟨rfl,rfl,fun r hr=> ?_,?_,by simp,by simp,by simp,by simp,by simp,by simp⟩
    ·have:¬r=nb:=by omega
     simp(disch:=first|assumption|decide|omega)
    ·simp;rfl
   rintro f nb1 g1 d ⟨rfl,hfr,hga,f0,f1,f2,f3,f4,f10⟩
   rw[ZkZ]
   obtain⟨hgc,hgn,_⟩:=(hX.grow (nb':=nb+1) (by omega) hfr).rc
   refine ZhY.seq (P:=fun f' nb' g'=> nb'=nb+1∧up.Nodup∧XC I n m av A rd rm nb g D M nb' g'∧(∃ver,g' nb=.map (ZCI (tr up)) ver)∧f' 0=.ptr I.c 0∧f' 1=nv a∧f' 2=nv b∧f' 3=.map rd∧f' 4=.map rm∧f' 10=.map nb) ?_ ?_
   ·rw[Zk6]
    refine ZhY.seq (P:=fun f' nb' g'=> nb'=nb+1∧g'=g1∧f' 0=.ptr I.c 0∧f' 1=nv a∧f' 2=nv b∧f' 3=.map rd∧f' 4=.map rm∧f' 10=.map nb∧f' 11=nv a) ?_ ?_
    ·rw[Zlk]
     simp(disch:=first|assumption|decide|omega)[f1]
     refine ZhY.mk ?_
     exact⟨rfl,rfl,rfl,by simp[f0],by simp[f1],by simp[f2],by simp[f3],by simp[f4],by simp[f10],by simp⟩
    rintro f nb2 g2 d ⟨rfl,hg2,f0,f1,f2,f3,f4,f10,f11⟩
    have hg2:=hg2.symm
    subst hg2
    rw[Zlt]
    refine ZhY.block (ZAT (I:=I) (n:=n) (m:=m) (av:=av) (A:=A) (ra:=nb) (nb:=nb+1) hnn (by omega) (by omega) (by omega) (by omega) (by omega) (by omega) 1000 (some a) [] up f g1 d hup .nil f0 f10 f11 hgc hgn ⟨0,hga⟩) ?_ ?_
    ·rintro f' nb' g' ⟨_,rfl,q1,q2,q3,q4⟩
     refine⟨rfl,rfl,q1,?_,q2,?_,?_,?_,?_,?_,?_⟩
     ·refine hX.grow (by omega) fun r hr=> ?_
      rw[q3 r (by omega),hfr r hr]
     ·rw[q4 0 (by omega)];exact f0
     ·rw[q4 1 (by omega)];exact f1
     ·rw[q4 2 (by omega)];exact f2
     ·rw[q4 3 (by omega)];exact f3
     ·rw[q4 4 (by omega)];exact f4
     ·rw[q4 10 (by omega)];exact f10
    ·rintro e f' nb' g' hne ⟨rfl,_⟩;exact absurd rfl hne
   rintro f nb2 g2 d ⟨rfl,hup',hX2,⟨vu,hgu⟩,f0,f1,f2,f3,f4,f10⟩
   rw[Zlf]
   obtain⟨hgc,hgn,_⟩:=hX2.rc
   refine ZhY.seq (P:=fun f' nb' g'=> nb'=nb+1∧g'=g2∧f' 12=nv b∧∀t,t < 12→f' t=f t) ?_ ?_
   ·rw[ZkV]
    simp(disch:=first|assumption|decide|omega)[f2]
    refine ZhY.mk ?_
    refine⟨rfl,rfl,rfl,by simp,fun t ht=> ?_⟩
    simp only[zt];repeat (rw[if_neg (by omega)])
   rintro f5 nb3 g3 d ⟨rfl,hg3,f12,t5⟩
   have hg3:=hg3.symm
   subst hg3
   rw[ZkX]
   refine ZhY.seq (P:=fun f' nb' g'=> nb'=nb+1∧g'=g2∧f' 12=nv c∧∀t,t < 12→f' t=f t) ?_ ?_
   ·rw[ZkY]
    refine ZhY.block (ZAP (I:=I) (n:=n) (m:=m) (av:=av) (A:=A) (ra:=nb) (nb:=nb+1) (d:=d) hnn (by omega) (by omega) (by omega) (by omega) hup' hgc hgn hgu 1000 b f5 hcom (by rw[t5 0 (by omega)];exact f0) (by rw[t5 10 (by omega)];exact f10) f12) ?_ ?_
    ·rintro f' nb' g' ⟨_,q1,q2,q3,q4⟩
     exact⟨rfl,q1,q2,q3,fun t ht=> (q4 t ht).trans (t5 t ht)⟩
    ·rintro e f' nb' g' hne ⟨rfl,_⟩;exact absurd rfl hne
   clear f12 t5 f5
   rintro f5 nb3 g3 d ⟨rfl,hg3,f12,t5⟩
   have hg3:=hg3.symm
   subst hg3
   rw[Zk2]
   have lb:=ZJM (nv a) (nv b)
   have i0:=ZJJ (nv a) (nv b)
   have i1:=ZJK (nv a) (nv b)
   have lit:=ZJN (a:Int) (b:Int)
   have x1:=(t5 1 (by omega)).trans f1
   have x2:=(t5 2 (by omega)).trans f2
   refine ZhY.seq (P:=fun f' nb' g'=> XC I n m av A rd rm nb g D M nb' g'∧f' 0=.ptr I.c 0∧f' 3=.map rd∧f' 4=.map rm∧f' 12=nv c∧f' 46=.vs [nv a,nv b] 2 1 .tight∧f' 47=nv 2∧f' 48=nv 0) ?_ ?_
   ·rw[Zk8]
    simp(disch:=first|assumption|decide|omega)[x1,x2,lit,lb]
    refine ZhY.mk ?_
    refine⟨rfl,hX2,?_,?_,?_,?_,?_,?_,?_⟩
    ·simp[t5 0,f0]
    ·simp[t5 3,f3]
    ·simp[t5 4,f4]
    ·simp[f12]
    ·simp
    ·simp
    ·simp
   clear f12 t5 f5 x1 x2 hX2 hgu hgc hgn f0 f1 f2 f3 f4 f10
   rintro f nb4 g4 d ⟨hX,f0,f3,f4,f12,f46,f47,f48⟩
   rw[Zk9]
   have l0:ZmK .lss .i64 0 .i64 2=some (.bool true):=rfl
   have l1:ZmK .lss .i64 1 .i64 2=some (.bool true):=rfl
   have l2:ZmK .lss .i64 2 .i64 2=some (.bool false):=rfl
   have a0:ZmK .add .i64 0 .i64 1=some (.int .i64 1):=rfl
   have a1:ZmK .add .i64 1 .i64 1=some (.int .i64 2):=rfl
   refine ZhY.block (Q:=fun e f' nb' g'=> e=.exit 4∧XC I n m av A rd rm nb g D' M' nb' g') ?_ (fun f' nb' g' h=> ⟨rfl,h.2⟩) (fun e f' nb' g' hne h=> absurd h.1 hne)
   rw[ZrR]
   simp(disch:=first|assumption|decide|omega)[f47,f48,l0]
   rw[ZiL]
   refine ZhY.seq (P:=fun f' nb' g'=> XC I n m av A rd rm nb g D1 M1 nb' g'∧f' 0=.ptr I.c 0∧f' 3=.map rd∧f' 4=.map rm∧f' 12=nv c∧f' 46=.vs [nv a,nv b] 2 1 .tight∧f' 47=nv 2∧f' 48=nv 1) ?_ ?_
   ·refine ZhY.seq (P:=fun f' nb' g'=> XC I n m av A rd rm nb g D1 M1 nb' g'∧RG I rd rm c 0 c (.vs [nv a,nv b] 2 1 .tight) f') ?_ ?_
    ·rw[ZiM]
     refine ZhY.block (Q:=fun e f' nb' g'=> e=.normal∧XC I n m av A rd rm nb g D1 M1 nb' g'∧RG I rd rm c 0 c (.vs [nv a,nv b] 2 1 .tight) f') ?_ (fun f' nb' g' h=> by cases h.1) fun e f' nb' g' _ h=> h
     rw[ZiO]
     simp(disch:=first|assumption|decide|omega)[f46,f48,i0]
     rw[ZiP]
     simp(disch:=first|assumption|decide|omega)
     rw[ZiQ]
     refine ZhY.block (Zus (c:=c) (i:=0) (fs:=.vs [nv a,nv b] 2 1 .tight) hnn hn hn2 hm hav hal ih 1000 a D M D1 M1 _ _ _ _ hw1 hX ⟨?_,?_,?_,?_,?_,?_,?_,?_⟩) ?_ ?_
     ·simp[f0]
     ·simp[f3]
     ·simp[f4]
     ·simp[f12]
     ·simp
     ·simp[f46]
     ·simp[f47]
     ·simp[f48]
     ·rintro f' nb' g' ⟨_,h⟩;exact⟨rfl,h⟩
     ·rintro e f' nb' g' hne ⟨rfl,_⟩;exact absurd rfl hne
    ·rintro f nb5 g5 d ⟨hX,hR⟩
     have f48:=hR.f48
     rw[ZiN]
     simp(disch:=first|assumption|decide|omega)[f48,a0]
     refine ZhY.mk ?_
     exact⟨rfl,hX,by simp[hR.f0],by simp[hR.f3],by simp[hR.f4],by simp[hR.f12],by simp[hR.f46],by simp[hR.f47],by simp⟩
   clear hX f0 f3 f4 f12 f46 f47 f48
   rintro f nb5 g5 d ⟨hX,f0,f3,f4,f12,f46,f47,f48⟩
   rw[ZrR]
   simp(disch:=first|assumption|decide|omega)[f47,f48,l1]
   rw[ZiL]
   refine ZhY.seq (P:=fun f' nb' g'=> XC I n m av A rd rm nb g D' M' nb' g'∧f' 47=nv 2∧f' 48=nv 2) ?_ ?_
   ·refine ZhY.seq (P:=fun f' nb' g'=> XC I n m av A rd rm nb g D' M' nb' g'∧RG I rd rm c 1 c (.vs [nv a,nv b] 2 1 .tight) f') ?_ ?_
    ·rw[ZiM]
     refine ZhY.block (Q:=fun e f' nb' g'=> e=.normal∧XC I n m av A rd rm nb g D' M' nb' g'∧RG I rd rm c 1 c (.vs [nv a,nv b] 2 1 .tight) f') ?_ (fun f' nb' g' h=> by cases h.1) fun e f' nb' g' _ h=> h
     rw[ZiO]
     simp(disch:=first|assumption|decide|omega)[f46,f48,i1]
     rw[ZiP]
     simp(disch:=first|assumption|decide|omega)
     rw[ZiQ]
     refine ZhY.block (Zus (c:=c) (i:=1) (fs:=.vs [nv a,nv b] 2 1 .tight) hnn hn hn2 hm hav hal ih 1000 b D1 M1 D' M' _ _ _ _ h hX ⟨?_,?_,?_,?_,?_,?_,?_,?_⟩) ?_ ?_
     ·simp[f0]
     ·simp[f3]
     ·simp[f4]
     ·simp[f12]
     ·simp
     ·simp[f46]
     ·simp[f47]
     ·simp[f48]
     ·rintro f' nb' g' ⟨_,h⟩;exact⟨rfl,h⟩
     ·rintro e f' nb' g' hne ⟨rfl,_⟩;exact absurd rfl hne
    ·rintro f nb6 g6 d ⟨hX,hR⟩
     have f48:=hR.f48
     rw[ZiN]
     simp(disch:=first|assumption|decide|omega)[f48,a1]
     refine ZhY.mk ?_
     exact⟨rfl,hX,by simp[hR.f47],by simp⟩
   clear hX f0 f3 f4 f12 f46 f47 f48
   rintro f nb6 g6 d ⟨hX,f47,f48⟩
   rw[ZrR]
   simp(disch:=first|assumption|decide|omega)[f47,f48,l2]
   exact ZhY.mk ⟨rfl,hX⟩
  ·rintro e f' nb' g' d' ⟨rfl,hq⟩
   rw[ZmX]
   simp(disch:=first|assumption|decide|omega)
   exact ZCm.mk hq
end
end
section
open Go Go.Ae
attribute [local simp] ZCl ZF JC JB ZR ZS Zo ZE Jx Jw Jq Zw Zk S_h ZH Zz ZM ZK ZL zt ZO ZN Z7 Zj Jp Z8 JD JE Zt Z0 ZCD ZP ZQ zq zB zz zA zo Z5 zr zO Jy Jz JG JH Z1 Z2 Z3 Z4 ZI Zy JF ZT ZW ZB ZA ZY ZX ZZ ZnB Zi3 V.ones Je Jd Jh Jg Jf Ji Jn Jo Jm ZV Jk Jl Jj zK ZU zL JA Jt Js Ju Jr Jv Ja Jb Jc Z9 max2 cond_true cond_false List.nil_append List.cons_append ZjS ZjR ZnJ ZnF ZnG ZnH ZnI Zig Zh1 Zpr Zpl Zpm Zpn Zpo Zpp Zpq Zh4 Zql Zqi Zqj Zqk ZqA ZqB ZnP ZnK ZnL ZnM ZnN ZnO ZnR ZqD Zik ZhZ ZnY ZnS ZnT ZnU ZnV ZnW ZnX Zh0 Zob ZnZ Zn0 Zn3 Zn4 Zn5 Zn6 Zn7 Zn8 Zn9 Zoa Zn1 Zn2 Zoc Zod Zok Zog Zoh Zoi Zoj Zom Zof Zip Ziq Zon Zoo Zop Zoq Zor Zos Zir Zih Zii Zot Zou ZoB ZoC ZoD ZoE ZoF ZoG ZoH ZoI Zov Zow Zox Zoy Zoz ZoA Zij ZoJ ZoQ ZoM ZoN ZoO ZoP ZoS ZoL Zis Zit ZoT ZoU ZoV ZoW Ziu Ziv ZoX ZoY ZoZ Zo0 Zo1 Zo2 Zo3 Ziw Zix Zo4 Zo5 Ziy Ziz Zpa Zo6 Zo7 Zo8 Zo9 ZiB Zpb Zpe Zpc Zpd Zpf Zpg Zpi Zpk ZiD Zil Zjw Zpy Zpv Zpw Zpx Zjy ZiE ZpE Zpz ZpA ZpB ZpC ZpD ZpF ZpH ZpJ ZjB ZjD ZpK ZpL ZpM ZpN ZjF ZjG ZpO ZpP ZpQ ZpR ZpS ZpT ZpU ZjI ZjJ ZpV ZpW Zp3 Zp4 Zp5 Zp6 Zp7 Zp8 Zp9 Zqa ZpX ZpY ZpZ Zp0 Zp1 Zp2 ZjL ZjN Zqh Zqd Zqe Zqf Zqg ZjP Zqm Zqn Zqo Zqp Zqq Zqr Zqc Zim Zps Zpt Zpu ZiA Zqx Zqs Zqt Zqu Zqv Zqw Zqz ZBD ZBB ZBv ZBt ZBu ZBw ZBz ZBx ZBy ZBA ZBS ZBQ ZBH ZBF ZBG ZBI ZBO ZBJ ZBK ZBL ZBM ZBN ZBP
section
attribute [local simp] ld3 ZC2 ZCB ZDp ZCG ZCN ZHC ZCP ZDo ZCH JR JS sz3 ZCR ZCx ZCz ZDr sp2 sp3 JO zK zL JY JX Zi4 Zi5 clc ZEE zac
attribute [-simp] zo zr zq zz zA zB zO max2 Zil Zim Zjw Zjy ZiE ZjB ZjD ZjF ZjG ZjI ZjJ ZjL ZjN ZjP
theorem Zum {r ver k:Nat} {T:List (Nat×Bool)} (hn:(T.map (·.1)).Nodup):lookW r (.map (ZCI T) ver) (nv k)=some {v:=.bool (ZCy T k),rd:=[r]}:=ZAy rfl hn
theorem ZAA {r ver k:Nat} {T:List (Nat×Bool)} {b:Bool} (hn:(T.map (·.1)).Nodup):ZGW r (.map (ZCI T) ver) (nv k) (.bool b)=some {v:=ZmM,rd:=[r],wr:=[(r,.map (ZCI (ZCQ T k b)) (ver+1))]}:=ZAE rfl hn
theorem ZKk {ru rm lo ver len:Nat} {T:List (Nat×Bool)} {g0:Nat→Blk} (hru:ru < lo) (hrm:rm < lo) (h1:g0 ru=.row 0 [.map rm]) (h2:g0 rm=.map (ZCI T) ver) (hn:(T.map (·.1)).Nodup):ZFJ lo g0 (.fn (.func 30) [] [.ptr ru 0]) (ZCy T) len:=by
 intro i N G D hi hN hG
 have e1:G ru=.row 0 [.map rm]:=by rw[hG ru hru];exact h1
 have e2:G rm=.map (ZCI T) ver:=by rw[hG rm hrm];exact h2
 have hlw:=Zum (r:=rm) (ver:=ver) (k:=i) hn
 have key:(EV Tryz.prog hs ks).call 30 [nv i,.ptr ru 0] (mkH N G D)=some [(.ret (.bool (ZCy T i)),mkH N G D)]:=by
  rw[ZBR _ (by simp)]
  simp(disch:=first|assumption|decide|omega)[e1,e2,hlw]
 show ZDX Tryz.prog hs ks (ZFa (.fn (.func 30) [] [.ptr ru 0]) [nv i]) (mkH N G D)=_
 rw[zK,zL]
 show ZCi Tryz.prog hs ks 30 [nv i,.ptr ru 0] (mkH N G D)=_
 rw[zwH rfl]
 exact key
theorem ZKj {lo len:Nat} {g0:Nat→Blk}:ZFJ lo g0 (.fn (.func 28) [] []) (fun _=> true) len:=by
 intro i N G D hi hN hG
 have key:ZCm (fun v _ _=> v=.bool true) ((EV Tryz.prog hs ks).call 28 [nv i] (mkH 0 (fun _=> .gone) [])):=by
  rw[ZBC _ (by simp)]
  simp(disch:=first|assumption|decide|omega)
  exact ZCm.mk rfl
 obtain⟨v,nb',g',d',hc,rfl⟩:=key
 show ZDX Tryz.prog hs ks (ZFa (.fn (.func 28) [] []) [nv i]) (mkH N G D)=_
 rw[zK,zL]
 exact QV (args':=[nv i]) rfl rfl (QT (by decide)) rfl hc (fun n=> rfl) _
def ZEk (m:Nat) (apps merges:List Key) (a b:Nat) (U:Nat→Bool):Bool:=match ZEF apps merges m 10000 U with
 |some A=> decide (A.cls[a]?=A.cls[b]?)
 |none=> false
theorem SlR.more {g g':Nat→Blk} {lo nb nb':Nat} {v:V} {l:List Nat} (h:SlR g lo nb v l) (hg:∀r,r < nb→lo≤r→g' r=g r) (hn:nb≤nb'):SlR g' lo nb' v l:=by
 rcases h with h|h|⟨r,h1,h2,h3,h4⟩
 ·exact .inl h
 ·exact .inr (.inl h)
 ·exact .inr (.inr ⟨r,h1,h2,by omega,by rw[hg r h3 h2];exact h4⟩)
structure MI (m a b ru rm:Nat) (av mv:V) (len:Nat) (T:List (Nat×Bool)) (out:List Nat) (f:Nat→V) (nb:Nat) (g:Nat→Blk):Prop where
 f0:f 0=nv m
 f1:f 1=av
 f2:f 2=mv
 f3:f 3=nv a
 f4:f 4=nv b
 f16:f 16=.ptr ru 0
 f69:f 69=nv len
 lo:rm < ru
 hb:ru < nb
 gu:g ru=.row 0 [.map rm]
 gm:∃ver,g rm=.map (ZCI T) ver
 nd:(T.map (·.1)).Nodup
 sl:SlR g (ru+1) nb (f 17) out
section
variable {m a b ru rm len:Nat} {av mv:V} {T:List (Nat×Bool)} {out:List Nat} {f f':Nat→V} {nb:Nat} {g g':Nat→Blk}
theorem MI.keep (h:MI m a b ru rm av mv len T out f nb g) (hf:f' 0=f 0∧f' 1=f 1∧f' 2=f 2∧f' 3=f 3∧f' 4=f 4∧f' 16=f 16∧f' 69=f 69∧f' 17=f 17):MI m a b ru rm av mv len T out f' nb g:=by
 obtain⟨h0,h1,h2,h3,h4,h16,h69,h17⟩:=hf
 exact⟨h0.trans h.f0,h1.trans h.f1,h2.trans h.f2,h3.trans h.f3,h4.trans h.f4,h16.trans h.f16,h69.trans h.f69,h.lo,h.hb,h.gu,h.gm,h.nd,by rw[h17];exact h.sl⟩
theorem MI.grow {nb':Nat} (h:MI m a b ru rm av mv len T out f nb g) (hf:f' 0=f 0∧f' 1=f 1∧f' 2=f 2∧f' 3=f 3∧f' 4=f 4∧f' 16=f 16∧f' 69=f 69∧f' 17=f 17) (hn:nb≤nb') (hg:∀r,r < nb→g' r=g r):MI m a b ru rm av mv len T out f' nb' g':=by
 obtain⟨h0,h1,h2,h3,h4,h16,h69,h17⟩:=hf
 have lo:=h.lo
 have hb:=h.hb
 exact⟨h0.trans h.f0,h1.trans h.f1,h2.trans h.f2,h3.trans h.f3,h4.trans h.f4,h16.trans h.f16,h69.trans h.f69,lo,by omega,by rw[hg ru hb];exact h.gu,by rw[hg rm (by omega)];exact h.gm,h.nd,by rw[h17];exact h.sl.more (fun r hr _=> hg r hr) hn⟩
theorem MI.setT {T':List (Nat×Bool)} {ver:Nat} (h:MI m a b ru rm av mv len T out f nb g) (hf:f' 0=f 0∧f' 1=f 1∧f' 2=f 2∧f' 3=f 3∧f' 4=f 4∧f' 16=f 16∧f' 69=f 69∧f' 17=f 17) (hm:g' rm=.map (ZCI T') ver) (hg:∀r,r≠rm→g' r=g r) (hn:(T'.map (·.1)).Nodup):MI m a b ru rm av mv len T' out f' nb g':=by
 obtain⟨h0,h1,h2,h3,h4,h16,h69,h17⟩:=hf
 have lo:=h.lo
 exact⟨h0.trans h.f0,h1.trans h.f1,h2.trans h.f2,h3.trans h.f3,h4.trans h.f4,h16.trans h.f16,h69.trans h.f69,lo,h.hb,by rw[hg ru (by omega)];exact h.gu,⟨_,hm⟩,hn,by rw[h17];exact h.sl.more (fun r hr hlo=> hg r (by omega)) (Nat.le_refl _)⟩
end
def minS (same:(Nat→Bool)→Bool) (i:Nat) (T:List (Nat×Bool)) (out:List Nat):List (Nat×Bool)×List Nat:=
 if ZCy T i=true then (if same (ZCy (ZCQ T i false))=true then (ZCQ T i false,out) else (ZCQ (ZCQ T i false) i true,out++[i])) else (T,out)
theorem ZBY (same:(Nat→Bool)→Bool) (k i:Nat) (T:List (Nat×Bool)) (out:List Nat):ZD1 same (k+1) i T out=ZD1 same k (i+1) (minS same i T out).1 (minS same i T out).2:=by
 unfold minS
 rw[ZD1]
 by_cases h1:ZCy T i=true
 ·rw[if_pos h1,if_pos h1]
  by_cases h2:same (ZCy (ZCQ T i false))=true
  ·rw[if_pos h2,if_pos h2]
  ·rw[if_neg h2,if_neg h2]
 ·rw[if_neg h1,if_neg h1]
theorem ZAD {T:List (Nat×Bool)} {k:Nat} {b:Bool} (h:(T.map (·.1)).Nodup):((ZCQ T k b).map (·.1)).Nodup:=by
 rw[ZB9];exact Zmz h
set_option maxHeartbeats 8000000 in
theorem ZB0 {m a b ru rm i:Nat} {la lm:List PrI} {av mv:V} (hm:m≤16) (hA:InS av la) (hM:InS mv lm) (hLa:la.length≤16) (hLm:lm.length≤16) (hchk:ZCt m la lm=0) (ha:a < m+la.length) (hb:b < m+la.length) (hil:i < lm.length) {T:List (Nat×Bool)} {out:List Nat} (hol:out.length≤i) {f:Nat→V} {nb:Nat} {g:Nat→Blk} {d:List Nat} (hI:MI m a b ru rm av mv lm.length T out f nb g) (f70:f 70=nv i):
 ZhY 107 (fun e f' nb' g'=> e=.normal∧MI m a b ru rm av mv lm.length (minS (ZEk m (toK la) (toK lm) a b) i T out).1 (minS (ZEk m (toK la) (toK lm) a b) i T out).2 f' nb' g'∧f' 70=nv i) (C 12 Zju (S 107 f [] (mkH nb g d))):=by
 obtain⟨_,ho1,ho2⟩:=zDD hchk
 have hP:=zCV hchk
 have ca:V.cells av=[av]:=by rcases hA with ⟨h,_⟩|⟨h,_⟩|⟨o,h⟩ <;> rw[h] <;> rfl
 generalize hsame:ZEk m (toK la) (toK lm) a b=same
 rw[Zil]
 refine ZhY.block (Q:=fun e f' nb' g'=> (e=.exit 1∨e=.normal)∧MI m a b ru rm av mv lm.length (minS same i T out).1 (minS same i T out).2 f' nb' g'∧f' 70=nv i) ?_ (fun f' nb' g' h=> ⟨rfl,h.2⟩) (fun e f' nb' g' hne h=> ⟨h.1.resolve_left hne,h.2⟩)
 rw[Zjw]
 refine ZhY.seq (P:=fun f' nb' g'=> MI m a b ru rm av mv lm.length T out f' nb' g'∧f' 70=nv i∧f' 18=nv i) ?_ ?_
 ·simp(disch:=first|assumption|decide|omega)[f70]
  refine ZhY.mk ?_
  exact⟨rfl,hI.keep (by simp),by simp[f70],by simp⟩
 clear hI f70
 rintro f nb g d ⟨hI,f70,f18⟩
 rw[Zjy]
 by_cases hT:ZCy T i=true
 case neg=>
  have hTf:ZCy T i=false:=by simpa using hT
  have hmin:minS same i T out=(T,out):=by unfold minS;rw[if_neg hT]
  rw[hmin]
  obtain⟨ver,hgm⟩:=hI.gm
  have hlw:=Zum (r:=rm) (ver:=ver) (k:=i) hI.nd
  rw[hTf] at hlw
  have lo:=hI.lo
  have hbb:=hI.hb
  have hgu:=hI.gu
  have f16:=hI.f16
  rw[ZiE]
  simp(disch:=first|assumption|decide|omega)[f16,f18,hgu,hgm,hlw]
  refine ZhY.mk ?_
  exact⟨.inl rfl,hI.keep (by simp),by simp[f70]⟩
 refine ZhY.seq (P:=fun f' nb' g'=> MI m a b ru rm av mv lm.length T out f' nb' g'∧f' 70=nv i∧f' 18=nv i) ?_ ?_
 ·obtain⟨ver,hgm⟩:=hI.gm
  have hlw:=Zum (r:=rm) (ver:=ver) (k:=i) hI.nd
  rw[hT] at hlw
  have lo:=hI.lo
  have hbb:=hI.hb
  have hgu:=hI.gu
  have f16:=hI.f16
  rw[ZiE]
  simp(disch:=first|assumption|decide|omega)[f16,f18,hgu,hgm,hlw]
  refine ZhY.mk ?_
  exact⟨rfl,hI.keep (by simp),by simp[f70],by simp[f18]⟩
 clear hI f70 f18
 rintro f nb g d ⟨hI,f70,f18⟩
 rw[ZjB]
 generalize hT1:ZCQ T i false=T1
 refine ZhY.seq (P:=fun f' nb' g'=> MI m a b ru rm av mv lm.length T1 out f' nb' g'∧f' 70=nv i∧f' 18=nv i) ?_ ?_
 ·obtain⟨ver,hgm⟩:=hI.gm
  have hmw:=ZAA (r:=rm) (ver:=ver) (k:=i) (b:=false) hI.nd
  rw[hT1] at hmw
  have lo:=hI.lo
  have hbb:=hI.hb
  have hgu:=hI.gu
  have f16:=hI.f16
  have hne:¬ru=rm:=by omega
  rw[ZjD]
  simp(disch:=first|assumption|decide|omega)[f16,f18,hgu,hgm,hmw]
  refine ZhY.mk ?_
  exact⟨rfl,hI.setT (ver:=ver+1) (by simp) (by simp) (fun r hr=> by simp[hr]) (by rw[←hT1];exact ZAD hI.nd),by simp[f70],by simp[f18]⟩
 clear hI f70 f18
 rintro f nb g d ⟨hI,f70,f18⟩
 rw[ZjF]
 obtain⟨A,hnew,hclo⟩:=zXW (used:=ZCy T1) hP (by rw[Qe];omega)
 have hsm:same (ZCy T1)=decide (A.cls[a]?=A.cls[b]?):=by rw[←hsame];unfold ZEk;rw[hnew]
 have lcl:=hclo.base.lc
 rw[Qe] at lcl
 have ka:A.cls[a]?=some A.cls[a]:=List.getElem?_eq_getElem (by omega)
 have kb:A.cls[b]?=some A.cls[b]:=List.getElem?_eq_getElem (by omega)
 generalize A.cls[a]=xa at ka
 generalize A.cls[b]=xb at kb
 rw[ka,kb] at hsm
 refine ZhY.seq (P:=fun f' nb' g'=> MI m a b ru rm av mv lm.length T1 out f' nb' g'∧f' 70=nv i∧f' 18=nv i∧∃c rc cs,c < nb'∧rc < nb'∧f' 19=.ptr c 0∧g' c=.row 0 (nv m::av::.hs rc 0 (m+la.length) (m+la.length) 1 false::cs)∧g' rc=.row 0 (ints A.cls)) ?_ ?_
 ·have lo:=hI.lo
  have hbb:=hI.hb
  obtain⟨ver,hgm⟩:=hI.gm
  have hU:=ZKk (len:=(toK lm).length) (lo:=nb) (by omega) (by omega) hI.gu hgm hI.nd
  obtain⟨v,nb',g',d',hcall,c,rfl,hR⟩:=zXV (d:=d) (hA.keys (zyJ ho1)) (hM.keys (zNT ho2)) (by rw[Qe];exact ZC4 hA) (by rw[Qe];exact ZC4 hM) ca (by rw[Qe];omega) (by rw[Qe];omega) (fun hh=> by rw[Qe] at hh;omega) hU hnew
  rw[Qe] at hR
  have hpu:V.pures (V.seals [nv m,av,mv,.fn (.func 30) [] [.ptr ru 0]])=false:=by
   show(V.pure (nv m) && (V.pure (V.shut av) && (V.pure (V.shut mv) && (false && true))))=false
   simp
  rw[←zwH (hint:=Cg.hs) (known:=ks) hpu] at hcall
  have f0:=hI.f0
  have f1:=hI.f1
  have f2:=hI.f2
  have f16:=hI.f16
  rw[ZjG]
  simp(disch:=first|assumption|decide|omega)[f0,f1,f2,f16,hcall]
  refine ZhY.mk ?_
  obtain⟨I,vm,vu,rfl,hCL⟩:=hR.some (by omega)
  have l1:=(hCL.lt I.c (by simp[Ids.all])).2
  have l2:=(hCL.lt I.rc (by simp[Ids.all])).2
  refine⟨rfl,hI.grow (by simp) hR.le hR.low,by simp[f70],by simp[f18],I.c,l1,I.rc,l2,by simp,⟨_,hCL.c⟩,hCL.rc⟩
 clear hI f70 f18
 rintro f nb g d ⟨hI,f70,f18,c,rc,cs,lc,lrc,f19,hgc,hgr⟩
 rw[ZjI]
 have h1:=Zp ka
 have h2:=Zp kb
 have ha':a≤m+la.length:=by omega
 have hb':b≤m+la.length:=by omega
 refine ZhY.seq (P:=fun f' nb' g'=> MI m a b ru rm av mv lm.length T1 out f' nb' g'∧f' 70=nv i∧f' 18=nv i∧f' 98=.bool (!same (ZCy T1))) ?_ ?_
 ·have f3:=hI.f3
  have f4:=hI.f4
  have e1:ZmK .neq .i64 (xa:Int) .i64 (xb:Int)=some (.bool (!same (ZCy T1))):=by
   rw[neN,hsm]
   by_cases hx:xa=xb <;> simp[hx]
  generalize hN:m+la.length=n at *
  rw[ZjJ]
  simp(disch:=first|assumption|decide|omega)[f3,f4,f19,hgc,hgr,h1,h2,Zu,lcl,ha',hb',e1]
  refine ZhY.mk ?_
  exact⟨rfl,hI.keep (by simp),by simp[f70],by simp[f18],by simp⟩
 clear hI f70 f18 lc lrc f19 hgc hgr
 rintro f nb g d ⟨hI,f70,f18,f98⟩
 rw[ZjL]
 by_cases hs1:same (ZCy T1)=true
 ·have hmin:minS same i T out=(T1,out):=by unfold minS;rw[if_pos hT,hT1,if_pos hs1]
  rw[hmin]
  rw[hs1] at f98
  simp(disch:=first|assumption|decide|omega)[f98]
  refine ZhY.mk ?_
  exact⟨.inr rfl,hI,f70⟩
 ·have hmin:minS same i T out=(ZCQ T1 i true,out++[i]):=by unfold minS;rw[if_pos hT,hT1,if_neg hs1]
  rw[hmin]
  have hs1:same (ZCy T1)=false:=by simpa using hs1
  rw[hs1] at f98
  simp(disch:=first|assumption|decide|omega) only[Zk,f98,Bool.not_false,Zt]
  rw[ZjN]
  refine ZhY.seq (P:=fun f' nb' g'=> MI m a b ru rm av mv lm.length (ZCQ T1 i true) out f' nb' g'∧f' 70=nv i∧f' 18=nv i) ?_ ?_
  ·obtain⟨ver,hgm⟩:=hI.gm
   have hmw:=ZAA (r:=rm) (ver:=ver) (k:=i) (b:=true) hI.nd
   have lo:=hI.lo
   have hbb:=hI.hb
   have hgu:=hI.gu
   have f16:=hI.f16
   have hne:¬ru=rm:=by omega
   simp(disch:=first|assumption|decide|omega)[f16,f18,hgu,hgm,hmw]
   refine ZhY.mk ?_
   exact⟨rfl,hI.setT (ver:=ver+1) (by simp) (by simp) (fun r hr=> by simp[hr]) (ZAD hI.nd),by simp[f70],by simp[f18]⟩
  clear hI f70 f18 f98
  rintro f nb g d ⟨hI,f70,f18⟩
  have lo:=hI.lo
  have hbb:=hI.hb
  rw[ZjP]
  obtain⟨q0,q1,q2,q3,q4,q16,q69,_,_,qu,⟨ver,qm⟩,qn,qs⟩:=hI
  rcases ZE8 (g:=g) (lo:=ru+1) (nb:=nb) qs (zyx i) (by rw[List.length_append];simp only[List.length_cons,List.length_nil];omega) with ⟨h,hsv⟩|⟨h⟩|⟨r,e,cs',len,cx,lx,zx,ox,hy,hx,p1,p2,p3,h⟩
  ·simp(disch:=first|assumption|decide|omega)[f18,h]
   refine ZhY.mk ?_
   exact⟨.inr rfl,⟨by simp[q0],by simp[q1],by simp[q2],by simp[q3],by simp[q4],by simp[q16],by simp[q69],lo,hbb,qu,⟨ver,qm⟩,qn,by simpa using hsv⟩,by simp[f70]⟩
  ·simp(disch:=first|assumption|decide|omega)[f18,h]
   refine ZhY.mk ?_
   have n1:¬ru=nb:=by omega
   have n2:¬rm=nb:=by omega
   refine⟨.inr rfl,⟨by simp[q0],by simp[q1],by simp[q2],by simp[q3],by simp[q4],by simp[q16],by simp[q69],lo,by omega,?_,⟨ver,?_⟩,qn,.inr (.inr ⟨nb,?_,by omega,by omega,?_⟩)⟩,by simp[f70]⟩
   ·simp(disch:=first|assumption|decide|omega)[qu]
   ·simp(disch:=first|assumption|decide|omega)[qm]
   ·simp
   ·simp
  ·cases hx
   have n1:¬ru=r:=by omega
   have n2:¬rm=r:=by omega
   simp(disch:=first|assumption|decide|omega)[f18,hy,h,p3]
   refine ZhY.mk ?_
   refine⟨.inr rfl,⟨by simp[q0],by simp[q1],by simp[q2],by simp[q3],by simp[q4],by simp[q16],by simp[q69],lo,hbb,?_,⟨ver,?_⟩,qn,.inr (.inr ⟨r,?_,p1,p2,?_⟩)⟩,by simp[f70]⟩
   ·simp(disch:=first|assumption|decide|omega)[qu]
   ·simp(disch:=first|assumption|decide|omega)[qm]
   ·simp
   ·simp
end
end
section
open Go Go.Ae
attribute [local simp] ZCl ZF JC JB ZR ZS Zo ZE Jx Jw Jq Zw Zk S_h ZH Zz ZM ZK ZL zt ZO ZN Z7 Zj Jp Z8 JD JE Zt Z0 ZCD ZP ZQ zq zB zz zA zo Z5 zr zO Jy Jz JG JH Z1 Z2 Z3 Z4 ZI Zy JF ZT ZW ZB ZA ZY ZX ZZ ZnB Zi3 V.ones Je Jd Jh Jg Jf Ji Jn Jo Jm ZV Jk Jl Jj zK ZU zL JA Jt Js Ju Jr Jv Ja Jb Jc Z9 max2 cond_true cond_false List.nil_append List.cons_append ZjS ZjR ZnJ ZnF ZnG ZnH ZnI Zig Zh1 Zpr Zpl Zpm Zpn Zpo Zpp Zpq Zh4 Zql Zqi Zqj Zqk ZqA ZqB ZnP ZnK ZnL ZnM ZnN ZnO ZnR ZqD Zik ZhZ ZnY ZnS ZnT ZnU ZnV ZnW ZnX Zh0 Zob ZnZ Zn0 Zn3 Zn4 Zn5 Zn6 Zn7 Zn8 Zn9 Zoa Zn1 Zn2 Zoc Zod Zok Zog Zoh Zoi Zoj Zom Zof Zip Ziq Zon Zoo Zop Zoq Zor Zos Zir Zih Zii Zot Zou ZoB ZoC ZoD ZoE ZoF ZoG ZoH ZoI Zov Zow Zox Zoy Zoz ZoA Zij ZoJ ZoQ ZoM ZoN ZoO ZoP ZoS ZoL Zis Zit ZoT ZoU ZoV ZoW Ziu Ziv ZoX ZoY ZoZ Zo0 Zo1 Zo2 Zo3 Ziw Zix Zo4 Zo5 Ziy Ziz Zpa Zo6 Zo7 Zo8 Zo9 ZiB Zpb Zpe Zpc Zpd Zpf Zpg Zpi Zpk ZiD Zil Zjw Zpy Zpv Zpw Zpx Zjy ZiE ZpE Zpz ZpA ZpB ZpC ZpD ZpF ZpH ZpJ ZjB ZjD ZpK ZpL ZpM ZpN ZjF ZjG ZpO ZpP ZpQ ZpR ZpS ZpT ZpU ZjI ZjJ ZpV ZpW Zp3 Zp4 Zp5 Zp6 Zp7 Zp8 Zp9 Zqa ZpX ZpY ZpZ Zp0 Zp1 Zp2 ZjL ZjN Zqh Zqd Zqe Zqf Zqg ZjP Zqm Zqn Zqo Zqp Zqq Zqr Zqc Zim Zps Zpt Zpu ZiA Zqx Zqs Zqt Zqu Zqv Zqw Zqz
section
attribute [local simp] ld3 ZC2 ZCB ZDp ZCG ZCN ZHC ZCP ZDo ZCH JR JS sz3 ZCR ZCx ZCz ZDr sp2 sp3 JO zK zL JY JX Zi4 Zi5 clc ZGY ZGX
attribute [-simp] zo zr zq zz zA zB zO max2 Zil Zim ZiB Zig Zh1 Zik Zh4 ZhZ Zip Zh0 Ziq Zir Zih Zis Zii Zij Zit Ziu Ziv Ziw Zix Ziy Ziz ZiA ZiD
set_option maxHeartbeats 2000000 in
theorem ZB1 {m a b ru rm:Nat} {la lm:List PrI} {av mv:V} (hm:m≤16) (hA:InS av la) (hM:InS mv lm) (hLa:la.length≤16) (hLm:lm.length≤16) (hchk:ZCt m la lm=0) (ha:a < m+la.length) (hb:b < m+la.length):
 ∀(k i:Nat) (T:List (Nat×Bool)) (out:List Nat) (f:Nat→V) (nb:Nat) (g:Nat→Blk) (d:List Nat),lm.length - i=k→i≤lm.length→out.length≤i→MI m a b ru rm av mv lm.length T out f nb g→f 70=nv i→
 ZhY 107 (fun e f' nb' g'=> e=.exit 0∧MI m a b ru rm av mv lm.length (ZD1 (ZEk m (toK la) (toK lm) a b) k i T out).1 (ZD1 (ZEk m (toK la) (toK lm) a b) k i T out).2 f' nb' g') (C 12 ZiC (S 107 f [] (mkH nb g d))):=by
 generalize hsame:ZEk m (toK la) (toK lm) a b=same
 intro k
 induction k with
 |zero=>
  intro i T out f nb g d hk hi hol hI f70
  obtain rfl:i=lm.length:=by omega
  have f69:=hI.f69
  have e2:ZmK .lss .i64 (lm.length:Int) .i64 (lm.length:Int)=some (.bool false):=by rw[ltN];simp
  rw[Zuv]
  simp(disch:=first|assumption|decide|omega)[f69,f70,e2]
  refine ZhY.mk ?_
  exact⟨rfl,hI.keep (by simp)⟩
 |succ k ih=>
  intro i T out f nb g d hk hi hol hI f70
  have hil:i < lm.length:=by omega
  have f69:=hI.f69
  have e1:=add1 (a:=i) (by omega)
  have e2:ZmK .lss .i64 (i:Int) .i64 (lm.length:Int)=some (.bool true):=by rw[ltN];simp[hil]
  have hol':(minS same i T out).2.length≤i+1:=by
   unfold minS
   split
   ·split
    ·show out.length≤i+1;omega
    ·rw[List.length_append];simp only[List.length_cons,List.length_nil];omega
   ·show out.length≤i+1;omega
  rw[ZBY]
  generalize hS:minS same i T out=TO at *
  rw[Zuv]
  simp(disch:=first|assumption|decide|omega)[f69,f70,e2]
  rw[ZiD]
  refine ZhY.seq (P:=fun f' nb' g'=> MI m a b ru rm av mv lm.length TO.1 TO.2 f' nb' g'∧f' 70=nv (i+1)) ?_ ?_
  ·have hstep:=ZB0 (d:=d) hm hA hM hLa hLm hchk ha hb hil hol (hI.keep (f':=at1 f 71 (.bool true)) (by simp)) (by simp[f70])
   rw[hsame,hS] at hstep
   refine ZhY.seq (P:=fun f' nb' g'=> MI m a b ru rm av mv lm.length TO.1 TO.2 f' nb' g'∧f' 70=nv i) hstep ?_
   clear hI f69 f70 hstep
   rintro f nb g d ⟨hI,f70⟩
   rw[Zim]
   simp(disch:=first|assumption|decide|omega)[f70,e1]
   refine ZhY.mk ?_
   exact⟨rfl,hI.keep (by simp),by simp⟩
  ·clear hI f69 f70
   rintro f nb g d ⟨hI,f70⟩
   exact ih (i+1) TO.1 TO.2 f nb g d (by omega) hil hol' hI f70
structure Found (m a b:Nat) (apps merges:List Key) (out:List Nat):Prop where
 srt:out.Pairwise (· < ·)
 lt:∀k∈out,k < merges.length
 imp:ZDa m apps merges (fun j=> decide (j∈out)) a b
 irr:∀k∈out,¬ZDa m apps merges (fun j=> decide (j∈out) && decide (j≠k)) a b
theorem ZB8 {m a b:Nat} {apps merges:List Key} (hP:RightP m apps merges) (hn:m+apps.length < 40) (ha:a < m+apps.length) (hb:b < m+apps.length) (U:Nat→Bool):ZEk m apps merges a b U=true↔ZDa m apps merges U a b:=by
 obtain⟨A,hnew,hclo⟩:=zXW (used:=U) hP hn
 unfold ZEk
 rw[hnew,hclo.impl hP (by omega) ha hb]
 simp
theorem ZAX {m a b:Nat} {apps merges:List Key} (hP:RightP m apps merges) (hn:m+apps.length < 40) (ha:a < m+apps.length) (hb:b < m+apps.length) {M:List Nat} (hM:ZDa m apps merges (ZCy (tr M)) a b):
 Found m a b apps merges (ZD1 (ZEk m apps merges a b) merges.length 0 (tr M) []).2:=by
 have h:=ZBZ (same:=ZEk m apps merges a b) (ZB8 hP hn ha hb) merges.length 0 (tr M) [] ⟨hM,fun k hk=> (by cases hk),.nil,fun j hj=> by omega,fun k hk=> (by cases hk)⟩
 rw[Nat.zero_add] at h
 generalize (ZD1 (ZEk m apps merges a b) merges.length 0 (tr M) [])=TO at *
 refine⟨h.srt,h.lt,h.imp.mono fun i hi hu=> ?_,fun k hk hi=> h.irr k hk (hi.mono fun j hj hu=> ?_)⟩
 ·simpa using (h.eq i hi).1 hu
 ·simp only[Bool.and_eq_true,decide_eq_true_eq] at hu⊢
  exact⟨(h.eq j hj).2 hu.1,hu.2⟩
end
section
attribute [local simp] ld3 ZC2 ZCB ZDp ZCG ZCN ZHC ZCP ZDo ZCH JR JS sz3 ZCR ZCx ZCz ZDr sp2 sp3 JO zK zL JY JX Zi4 Zi5 clc ZGY ZGX
attribute [-simp] zo zr zq zz zA zB zO max2 Zil Zim ZiB Zig Zh1 Zik Zh4 ZhZ Zip Zh0 Ziq Zir Zih Zis Zii Zij Zit Ziu Ziv Ziw Zix Ziy Ziz ZiA ZiD
theorem ZKe:ZmI Tryz.prog 87=1:=by kernel_rfl
theorem ZB3 {r:Nat}:V.one (.map r)=true:=rfl
theorem ZKl {x y:V}:splice [x] [y] 0=some [y]:=rfl
def inR (a b:Int) (n:Int):Bool:=wit (a,b) n
set_option maxHeartbeats 4000000 in
theorem ZAU {t:Int} {la lm:List PrI} {av mv:V} {a b:Int} (ht:t≤16) (hA:InS av la) (hM:InS mv lm) (hLa:la.length≤16) (hLm:lm.length≤16) (he:ZCt t la lm=2∨ZCt t la lm=0∧inR a b (t+la.length)=false):
 ZCm (fun v _ _=> v=.tup [.nils,.bool false,.int .i64 2]) ((EV Tryz.prog hs ks).call 12 [.int .i64 t,av,mv,.int .i64 a,.int .i64 b] (mkH 0 (fun _=> .gone) [])):=by
 have hck:=zDz (t:=t) ht (by omega) hA hM hLa hLm
 have hAl:=ZC4 hA
 rw[Zuw _ (by simp),ZjR]
 refine ZhY.rets (n:=107) (Q:=fun e f' _ _=> e=.ret∧f' 10=.nils∧f' 11=.bool false∧f' 12=.int .i64 2) ?_ ?_
 ·refine ZhY.seq (P:=fun f' nb' g'=> f' 0=.int .i64 t∧f' 1=av∧f' 2=mv∧f' 3=.int .i64 a∧f' 4=.int .i64 b) ?_ ?_
  ·simp(disch:=first|assumption|decide|omega)
   refine ZhY.mk ?_
   exact⟨rfl,by simp,by simp,by simp,by simp,by simp⟩
  rintro f nb g d ⟨f0,f1,f2,f3,f4⟩
  rw[Zig]
  rcases he with he|⟨he,hr⟩
  ·rw[he] at hck
   have hneq:ZmJ Tryz.prog .neq 28 false true (.int .i64 2) (.int .i64 0)=some (.bool true):=rfl
   simp(disch:=first|assumption|decide|omega)[Zh1,Zh4,f0,f1,f2,hck,hneq]
   refine ZhY.mk ?_
   exact⟨rfl,by simp,by simp,by simp⟩
  ·rw[he] at hck
   obtain⟨h0,_,_⟩:=zDD he
   have hneq:ZmJ Tryz.prog .neq 28 false true (.int .i64 0) (.int .i64 0)=some (.bool false):=rfl
   refine ZhY.seq (P:=fun f' nb' g'=> f' 0=.int .i64 t∧f' 1=av∧f' 3=.int .i64 a∧f' 4=.int .i64 b) ?_ ?_
   ·simp(disch:=first|assumption|decide|omega)[Zh1,Zh4,f0,f1,f2,hck,hneq]
    refine ZhY.mk ?_
    exact⟨rfl,by simp[f0],by simp[f1],by simp[f3],by simp[f4]⟩
   clear f0 f1 f2 f3 f4
   rintro f nb g d ⟨f0,f1,f3,f4⟩
   have e3:ZmK .add .i64 t .i64 (la.length:Int)=some (.int .i64 (t+la.length)):=by rw[zq,za4 (by omega) (by omega)]
   rw[Zik]
   by_cases h1:min a b < 0
   ·have w1:ZmK .lss .i64 (min a b) .i64 0=some (.bool true):=by rw[zo];simp[h1]
    simp(disch:=first|assumption|decide|omega)[ZhZ,Zh0,f0,f1,f3,f4,hAl,e3,w1]
    refine ZhY.mk ?_
    exact⟨rfl,by simp,by simp,by simp⟩
   ·have w1:ZmK .lss .i64 (min a b) .i64 0=some (.bool false):=by rw[zo];simp[h1]
    have w2:ZmK .geq .i64 (max a b) .i64 (t+la.length)=some (.bool true):=by
     rw[zO]
     unfold inR wit at hr
     simp only[Bool.and_eq_false_iff,decide_eq_false_iff_not] at hr
     have:t+(la.length:Int)≤max a b:=by omega
     simp[this]
    simp(disch:=first|assumption|decide|omega)[ZhZ,Zh0,f0,f1,f3,f4,hAl,e3,w1,w2]
    refine ZhY.mk ?_
    exact⟨rfl,by simp,by simp,by simp⟩
 ·rintro e f' nb' g' d' ⟨rfl,h1,h2,h3⟩
  rw[ZjS]
  simp(disch:=first|assumption|decide|omega)[h1,h2,h3]
  exact ZCm.mk rfl
structure ExQ (m a b:Nat) (la lm:List PrI) (f:Nat→V) (nb:Nat) (g:Nat→Blk):Prop where
 ex:∃ov ok,f 10=ov∧f 11=.bool ok∧f 12=.int .i64 0∧(ok=false→ov=.nils∧¬ZDa m (toK la) (toK lm) (fun _=> true) a b)∧(ok=true→∃out,Found m a b (toK la) (toK lm) out∧SlR g 0 nb ov out∧ZDa m (toK la) (toK lm) (fun _=> true) a b)
set_option maxHeartbeats 8000000 in
theorem ZAV {m a b:Nat} {la lm:List PrI} {av mv:V} (hm:m≤16) (hA:InS av la) (hM:InS mv lm) (hLa:la.length≤16) (hLm:lm.length≤16) (hchk:ZCt m la lm=0) (ha:a < m+la.length) (hb:b < m+la.length):
 ZCm (fun v nb' g'=> ∃ov ok,v=.tup [ov,.bool ok,.int .i64 0]∧(ok=false→ov=.nils∧¬ZDa m (toK la) (toK lm) (fun _=> true) a b)∧(ok=true→∃out,Found m a b (toK la) (toK lm) out∧SlR g' 0 nb' ov out∧ZDa m (toK la) (toK lm) (fun _=> true) a b)) ((EV Tryz.prog hs ks).call 12 [nv m,av,mv,nv a,nv b] (mkH 0 (fun _=> .gone) [])):=by
 have hck:=zDz (t:=(m:Int)) (by omega) (.inl (by omega)) hA hM hLa hLm
 rw[hchk] at hck
 obtain⟨_,ho1,ho2⟩:=zDD hchk
 have hP:=zCV hchk
 have hAl:=ZC4 hA
 have hMl:=ZC4 hM
 have hneq:ZmJ Tryz.prog .neq 28 false true (.int .i64 0) (.int .i64 0)=some (.bool false):=rfl
 have e3:ZmK .add .i64 (m:Int) .i64 (la.length:Int)=some (nv (m+la.length)):=addN (by omega)
 have w1:ZmK .lss .i64 (min (a:Int) (b:Int)) .i64 0=some (.bool false):=by rw[zo,decide_eq_false (by omega)]
 obtain⟨n,hn⟩:∃n,n=m+la.length:=⟨_,rfl⟩
 have w2:ZmK .geq .i64 (max (a:Int) (b:Int)) .i64 (n:Int)=some (.bool false):=by rw[zO,decide_eq_false (by omega)]
 rw[←hn] at e3 ha hb
 obtain⟨A,hnew,hclo⟩:=zXW (used:=fun _=> true) hP (by rw[Qe];omega)
 have lcl:=hclo.base.lc
 have lnx:=hclo.base.ln
 have lwh:=hclo.base.lw
 rw[Qe,←hn] at lcl lnx lwh
 rw[Zuw _ (by simp),ZjR]
 refine ZhY.rets (n:=107) (Q:=fun e f' nb' g'=> e=.ret∧ExQ m a b la lm f' nb' g') ?_ ?_
 ·refine ZhY.seq (P:=fun f' nb' g'=> nb'=0∧f' 0=nv m∧f' 1=av∧f' 2=mv∧f' 3=nv a∧f' 4=nv b) ?_ ?_
  ·simp(disch:=first|assumption|decide|omega)
   refine ZhY.mk ?_
   exact⟨rfl,rfl,by simp,by simp,by simp,by simp,by simp⟩
  rintro f nb g d ⟨rfl,f0,f1,f2,f3,f4⟩
  rw[Zig]
  refine ZhY.seq (P:=fun f' nb' g'=> nb'=0∧f' 0=nv m∧f' 1=av∧f' 2=mv∧f' 3=nv a∧f' 4=nv b) ?_ ?_
  ·simp(disch:=first|assumption|decide|omega)[Zh1,Zh4,f0,f1,f2,hck,hneq]
   refine ZhY.mk ?_
   exact⟨rfl,rfl,by simp[f0],by simp[f1],by simp[f2],by simp[f3],by simp[f4]⟩
  clear f0 f1 f2 f3 f4
  rintro f nb g d ⟨rfl,f0,f1,f2,f3,f4⟩
  rw[Zik]
  refine ZhY.seq (P:=fun f' nb' g'=> nb'=0∧f' 0=nv m∧f' 1=av∧f' 2=mv∧f' 3=nv a∧f' 4=nv b) ?_ ?_
  ·simp(disch:=first|assumption|decide|omega)[ZhZ,Zh0,f0,f1,f3,f4,hAl,e3,w1,w2]
   refine ZhY.mk ?_
   exact⟨rfl,rfl,by simp[f0],by simp[f1],by simp[f2],by simp[f3],by simp[f4]⟩
  clear f0 f1 f2 f3 f4
  rintro f nb g d ⟨rfl,f0,f1,f2,f3,f4⟩
  rw[Zip]
  obtain⟨hA',pa⟩:=hA.shut
  obtain⟨hM',pm⟩:=hM.shut
  have hU:ZFJ 0 (fun _=> .gone) (.fn (.func 28) [] []) (fun _=> true) (toK lm).length:=ZKj
  obtain⟨cv,nb1,g1,d1,hcall,c,rfl,hR⟩:=zXV (d:=[]) (hA'.keys (zyJ ho1)) (hM'.keys (zNT ho2)) (by rw[Qe];exact ZC4 hA') (by rw[Qe];exact ZC4 hM') (by rcases hA' with ⟨h,_⟩|⟨h,_⟩|⟨o,h⟩ <;> rw[h] <;> rfl) (by rw[Qe];omega) (by rw[Qe];omega) (fun hh=> by rw[Qe] at hh;omega) hU hnew
  rw[Qe,←hn] at hR
  rw[←zDI] at hcall
  have hsl:V.seals [nv m,av,mv,.fn (.func 28) [] []]=[nv m,V.shut av,V.shut mv,.fn (.func 28) [] []]:=rfl
  have hpu:V.pures [nv m,V.shut av,V.shut mv,.fn (.func 28) [] []]=true:=by
   show(V.pure (nv m) && (V.pure (V.shut av) && (V.pure (V.shut mv) && (V.pure (.fn (.func 28) [] []) && true))))=true
   rw[pa,pm];rfl
  obtain⟨g3,hkeep,hg3⟩:=zPL hsl hpu (QT (by decide)) rfl hcall g d
  obtain⟨I,vm,vu,rfl,hCL⟩:=hR.some (by omega)
  have l1:=(hCL.lt I.c (by simp[Ids.all])).2
  have l2:=(hCL.lt I.rc (by simp[Ids.all])).2
  have l3:=(hCL.lt I.rn (by simp[Ids.all])).2
  have l4:=(hCL.lt I.rw (by simp[Ids.all])).2
  have q1:g3 I.c=.row 0 (clc I n m (V.shut av)):=by rw[hg3 _ l1];exact zyw hCL.c
  have q2:g3 I.rc=.row 0 (ints A.cls):=by rw[hg3 _ l2];exact zyw hCL.rc
  have q3:g3 I.rn=.row 0 (ZDb A.nxt):=by rw[hg3 _ l3];exact zyw hCL.rn
  have q4:g3 I.rw=.row 0 (ZCq A.why):=by rw[hg3 _ l4];exact zyw hCL.rw
  refine ZhY.seq (P:=fun f' nb' g'=> nb'=nb1∧g'=g3∧f' 0=nv m∧f' 1=av∧f' 2=mv∧f' 3=nv a∧f' 4=nv b∧f' 15=.ptr I.c 0) ?_ ?_
  ·rw[Ziq]
   simp(disch:=first|assumption|decide|omega)[f0,f1,f2,hkeep]
   refine ZhY.mk ?_
   exact⟨rfl,rfl,rfl,by simp[f0],by simp[f1],by simp[f2],by simp[f3],by simp[f4],by simp⟩
  clear f0 f1 f2 f3 f4
  rintro f nb2 g2 d ⟨hb2,hg2,f0,f1,f2,f3,f4,f15⟩
  have hb2:=hb2.symm
  have hg2:=hg2.symm
  subst hb2 hg2
  rw[Zir]
  have ka:A.cls[a]?=some A.cls[a]:=List.getElem?_eq_getElem (by omega)
  have kb:A.cls[b]?=some A.cls[b]:=List.getElem?_eq_getElem (by omega)
  generalize A.cls[a]=xa at ka
  generalize A.cls[b]=xb at kb
  have h1:=Zp ka
  have h2:=Zp kb
  have ha':a≤n:=by omega
  have hb':b≤n:=by omega
  have himp:=hclo.impl hP (by rw[Qe];omega) (a:=a) (b:=b) (by rw[Qe];omega) (by rw[Qe];omega)
  rw[ka,kb] at himp
  by_cases hxy:xa=xb
  case neg=>
   have e1:ZmK .neq .i64 (xa:Int) .i64 (xb:Int)=some (.bool true):=by rw[neN];simp[hxy]
   simp(disch:=first|assumption|decide|omega)[Zih,Zii,Zij,f3,f4,f15,q1,q2,h1,h2,Zu,lcl,ha',hb',e1]
   refine ZhY.mk ?_
   refine⟨rfl,⟨.nils,false,by simp,by simp,by simp,fun _=> ⟨rfl,fun hh=> hxy ?_⟩,fun hh=> by cases hh⟩⟩
   have:=himp.1 hh
   simpa using this
  subst hxy
  have e1:ZmK .neq .i64 (xa:Int) .i64 (xa:Int)=some (.bool false):=by rw[neN];simp
  refine ZhY.seq (P:=fun f' nb' g'=> nb'=nb1∧g'=g3∧f' 0=nv m∧f' 1=av∧f' 2=mv∧f' 3=nv a∧f' 4=nv b∧f' 15=.ptr I.c 0) ?_ ?_
  ·simp(disch:=first|assumption|decide|omega)[Zih,Zii,Zij,f3,f4,f15,q1,q2,h1,h2,Zu,lcl,ha',hb',e1]
   refine ZhY.mk ?_
   exact⟨rfl,rfl,rfl,by simp[f0],by simp[f1],by simp[f2],by simp[f3],by simp[f4],by simp[f15]⟩
  clear f0 f1 f2 f3 f4 f15
  rintro f nb2 g2 d ⟨hb2,hg2,f0,f1,f2,f3,f4,f15⟩
  have hb2:=hb2.symm
  have hg2:=hg2.symm
  subst hb2 hg2
  rw[Zis]
  obtain⟨L,hL⟩:=ZB2 hnew
  obtain⟨D,M,hex,hMu,hsuf⟩:=ZAS (by rw[Qe];omega) hclo.base hL ka kb
  refine ZhY.seq (P:=fun f' nb' g'=> nb'=nb1+1+1∧(∀r,r < nb1→g' r=g3 r)∧g' nb1=.map [] 0∧g' (nb1+1)=.row 0 [.map nb1]∧f' 0=nv m∧f' 1=av∧f' 2=mv∧f' 3=nv a∧f' 4=nv b∧f' 15=.ptr I.c 0∧f' 16=.ptr (nb1+1) 0) ?_ ?_
  ·rw[Zit]
   simp(disch:=first|assumption|decide|omega)[ZKl,ZKe,ZB3,zPR]
   refine ZhY.mk ?_
   refine⟨rfl,rfl,fun r hr=> ?_,?_,?_,by simp[f0],by simp[f1],by simp[f2],by simp[f3],by simp[f4],by simp[f15],by simp⟩
   ·have x1:¬r=nb1:=by omega
    have x2:¬r=nb1+1:=by omega
    simp(disch:=first|assumption|decide|omega)
   ·simp(disch:=first|assumption|decide|omega)
   ·simp(disch:=first|assumption|decide|omega)
  clear f0 f1 f2 f3 f4 f15
  rintro f nb4 g4 d ⟨rfl,hlow,hgm,hgu,f0,f1,f2,f3,f4,f15,f16⟩
  rw[Ziu]
  have hXC:XC I n m (V.shut av) A (nb1+1+1) nb1 (nb1+1+1+1) (at1 g4 (nb1+1+1) (.map (ZCI (tr [])) 0)) [] [] (nb1+1+1+1) (at1 g4 (nb1+1+1) (.map (ZCI (tr [])) 0)):=by
   have z:∀r,r < nb1→at1 g4 (nb1+1+1) (.map (ZCI (tr [])) 0) r=g3 r:=fun r hr=> by rw[QF _ _ (by omega)];exact hlow r hr
   exact⟨by omega,by omega,by omega,by omega,by omega,by omega,by omega,by omega,by omega,by omega,by omega,by omega,(z _ l1).trans q1,(z _ l3).trans q3,(z _ l4).trans q4,Nat.le_refl _,fun _ _ _ _=> rfl,⟨0,zag _ _ _⟩,⟨0,by rw[QF _ _ (by omega)];exact hgm⟩,.nil,.nil⟩
  have hxa:=ZAO (I:=I) (n:=n) (m:=m) (apps:=toK la) (av:=V.shut av) (A:=A) (rd:=nb1+1+1) (rm:=nb1) lnx lwh (by omega) (by omega) (hA'.keys (zyJ ho1)) (by rw[Qe];omega) 1000 a b [] [] D M (nb1+1+1+1) _ d hex hXC
  obtain⟨xv,nb5,g5,d5,hxc,hX5⟩:=hxa
  rw[←zwH (hint:=Cg.hs) (known:=ks) rfl] at hxc
  have hxc:ZCi Tryz.prog Cg.hs ks 29 [.ptr I.c 0,nv a,nv b,.map (nb1+1+1),.map nb1] (mkH (nb1+1+1+1) (atB g4 (nb1+1+1) (.map [] 0)) d)=some [(.ret xv,mkH nb5 g5 d5)]:=hxc
  have hb5:=hX5.hb
  obtain⟨vm5,hgm5⟩:=hX5.hm
  have hgu5:g5 (nb1+1)=.row 0 [.map nb1]:=by
   rw[hX5.fr _ (by omega) (by omega) (by omega),QF _ _ (by omega)];exact hgu
  refine ZhY.seq (P:=fun f' nb' g'=> nb'=nb5∧g'=g5∧f' 0=nv m∧f' 1=av∧f' 2=mv∧f' 3=nv a∧f' 4=nv b∧f' 16=.ptr (nb1+1) 0) ?_ ?_
  ·have hne:¬nb1+1=nb1+1+1:=by omega
   rw[Ziv]
   simp(disch:=first|assumption|decide|omega)[f3,f4,f15,f16,hgu,hxc]
   refine ZhY.mk ?_
   exact⟨rfl,rfl,rfl,by simp[f0],by simp[f1],by simp[f2],by simp[f3],by simp[f4],by simp[f16]⟩
  clear f0 f1 f2 f3 f4 f15 f16
  rintro f nb6 g6 d ⟨hb6,hg6,f0,f1,f2,f3,f4,f16⟩
  have hb6:=hb6.symm
  have hg6:=hg6.symm
  subst hb6 hg6
  rw[Ziw]
  refine ZhY.seq (P:=fun f' nb' g'=> nb'=nb5∧g'=g5∧f' 0=nv m∧f' 1=av∧f' 2=mv∧f' 3=nv a∧f' 4=nv b∧f' 16=.ptr (nb1+1) 0∧f' 17=.nils) ?_ ?_
  ·rw[Zix]
   simp(disch:=first|assumption|decide|omega)
   refine ZhY.mk ?_
   exact⟨rfl,rfl,rfl,by simp[f0],by simp[f1],by simp[f2],by simp[f3],by simp[f4],by simp[f16],by simp⟩
  clear f0 f1 f2 f3 f4 f16
  rintro f nb6 g6 d ⟨hb6,hg6,f0,f1,f2,f3,f4,f16,f17⟩
  have hb6:=hb6.symm
  have hg6:=hg6.symm
  subst hb6 hg6
  rw[Ziy]
  have hMimp:ZDa m (toK la) (toK lm) (ZCy (tr M)) a b:=fun Rel hR hh=> hsuf Rel hR fun i p hi hp=> hh i p hp (by rw[ZAF];simpa using hi)
  have hfound:=ZAX (m:=m) (a:=a) (b:=b) hP (by rw[Qe];omega) (by rw[Qe];omega) (by rw[Qe];omega) hMimp
  rw[Qe] at hfound
  refine ZhY.seq (P:=fun f' nb' g'=> SlR g' 0 nb' (f' 17) (ZD1 (ZEk m (toK la) (toK lm) a b) lm.length 0 (tr M) []).2) ?_ ?_
  ·rw[Ziz]
   simp(disch:=first|assumption|decide|omega)[f2,hMl]
   rw[ZiB]
   refine ZhY.block (ZB1 (a:=a) (b:=b) (ru:=nb1+1) (rm:=nb1) hm hA hM hLa hLm hchk (by omega) (by omega) lm.length 0 (tr M) [] _ nb5 g5 _ rfl (Nat.zero_le _) (Nat.le_refl _) ⟨?_,?_,?_,?_,?_,?_,?_,by omega,by omega,hgu5,⟨vm5,hgm5⟩,by rw[Zuq];exact hX5.nm,.inl ⟨?_,rfl⟩⟩ ?_) ?_ ?_
   ·simp[f0]
   ·simp[f1]
   ·simp[f2]
   ·simp[f3]
   ·simp[f4]
   ·simp[f16]
   ·simp
   ·simp[f17]
   ·simp
   ·rintro f' nb' g' ⟨_,h⟩
    refine⟨rfl,?_⟩
    rcases h.sl with q|q|⟨r,q5,q6,q7,q8⟩
    ·exact .inl q
    ·exact .inr (.inl q)
    ·exact .inr (.inr ⟨r,q5,Nat.zero_le _,q7,q8⟩)
   ·rintro e f' nb' g' hne ⟨rfl,_⟩;exact absurd rfl hne
  clear f0 f1 f2 f3 f4 f16 f17
  rintro f nb7 g7 d hs17
  rw[ZiA]
  simp(disch:=first|assumption|decide|omega)
  refine ZhY.mk ?_
  exact⟨rfl,⟨⟨f 17,true,by simp,by simp,by simp,fun hh=> (by cases hh),fun _=> ⟨_,hfound,hs17,himp.2 rfl⟩⟩⟩⟩
 ·rintro e f' nb' g' d' ⟨rfl,ov,ok,h1,h2,h3,h4,h5⟩
  have c1:V.cells ov=[ov]∧V.one ov=true:=by
   cases ok with
   |false=> rw[(h4 rfl).1];exact⟨rfl,rfl⟩
   |true=>
    obtain⟨out,_,hs,_⟩:=h5 rfl
    rcases hs with ⟨h,_⟩|h|⟨r,h,_⟩ <;> rw[h] <;> exact⟨rfl,rfl⟩
  obtain⟨c1,c2⟩:=c1
  rw[ZjS]
  have he:ZCp (ZCk Tryz.prog (S 107 f' [] (mkH nb' g' d')) [.tmp 10,.tmp 11,.tmp 12]) (mkH nb' g' d')=some [(.ret (.tup [ov,.bool ok,.int .i64 0]),mkH nb' g' d')]:=by
   simp(disch:=first|assumption|decide|omega)[h1,h2,h3,c1,c2]
  rw[he]
  exact ZCm.mk ⟨ov,ok,rfl,h4,h5⟩
end
end
section
open Go Go.Ae
attribute [local simp] ZCl ZF JC JB ZR ZS Zo ZE Jx Jw Jq Zw Zk S_h ZH Zz ZM ZK ZL zt ZO ZN Z7 Zj Jp Z8 JD JE Zt Z0 ZCD ZP ZQ zq zB zz zA zo Z5 zr zO Jy Jz JG JH Z1 Z2 Z3 Z4 ZI Zy JF ZT ZW ZB ZA ZY ZX ZZ ZnB Zi3 V.ones Je Jd Jh Jg Jf Ji Jn Jo Jm ZV Jk Jl Jj zK ZU zL JA Jt Js Ju Jr Jv Ja Jb Jc Z9 max2 cond_true cond_false List.nil_append List.cons_append ZmG ZmF ZuB Zux Zuy Zuz ZuA ZiF Zin Zwl Zwf Zwg Zwh Zwi Zwj Zwk Zio ZwV ZwS ZwT ZwU Zw3 Zw4 ZuH ZuC ZuD ZuE ZuF ZuG ZuI Zw5 ZiI ZhT ZuJ ZuK ZuL ZuM ZuN ZuO ZhU ZhV Zu6 ZuP ZuQ ZuY ZuZ Zu0 Zu1 Zu2 Zu3 Zu4 Zu5 ZuR ZuS ZuT ZuU ZuV ZuW ZuX Zu7 Zu8 Zve Zva Zvb Zvc Zvd Zvf Zu9 ZjX Zj1 Zvg Zvh Zvi Zvj Zvk Zj3 ZiG Zj7 Zvl Zvm Zvn Zvo Zvp Zvq Zvr Zvs Zvt Zj9 Zvu ZvA Zvw Zvx Zvy Zvz ZvB Zvv Zj6 Zkd ZvE ZvC ZvD Zkg ZvG ZvH ZvN ZvI ZvJ ZvK ZvL ZvM ZvO ZvP ZvQ Zkk Zkm Zkp Zkq ZvV ZvW ZvX ZvY ZvZ Zkr Zv0 Zv1 Zv5 Zv6 Zv7 Zv8 Zv9 Zwa Zwb Zwc Zv2 Zv3 Zv4 Zkn ZvR ZvS ZvT ZvU Zkf Zks Zwd Zwe Zkv Zkx Zwo Zwm Zwn ZkA Zwq Zwr Zwx Zws Zwt Zwu Zwv Zww Zwy Zwz ZwA ZkE ZkG ZkJ ZwK ZwF ZwG ZwH ZwI ZwJ ZkL ZkM ZwL ZwM ZwN ZwO ZwP ZwQ ZwR ZkH ZwB ZwC ZwD ZwE Zkz Zw1 ZwW ZwX ZwY ZwZ Zw0 Zw2 ZBs Zw7 ZA3 ZA1 ZA2 ZA4 ZBc ZA5 ZA6 ZA7 ZA8 ZA9 ZBa ZBb ZBd ZBp ZBe ZBf ZBh ZBi ZBj ZBk ZBl ZBm ZBn ZBo ZBg ZBq
section
attribute [local simp] ld3 ld4 ZCB ZCG ZCN ZCP ZCK ZCH ZEs ZEr JR JS sz3 sz4 ZCx ZCz sp2 JO zK zL JY JX aa1 ZEE zac
attribute [-simp] zo zr zq zz zA zB zO max2 ZiF Zin ZiI Zio ZhT ZhU ZhV ZjX Zj1 Zj3 ZiG Zj6 Zkd Zkf Zkg Zkm Zkn Zkp Zkq Zkr Zkv Zkx Zkz ZkA ZkG ZkH ZkJ ZkL ZkM Zkk ZkE Zks
set_option maxHeartbeats 4000000 in
theorem ZnC {m a b:Nat} {la lm:List PrI} {av mv:V} {bl:List Bool} {r nb:Nat} {ex:Bool} {g:Nat→Blk} {d:List Nat} (hm:m≤16) (hA:InS av la) (hM:InS mv lm) (hLa:la.length≤16) (hLm:lm.length≤16) (hchk:ZCt m la lm=0) (ha:a < m+la.length) (hb:b < m+la.length) (hbl:bl.length=lm.length) (hnb:nb < 1000000) (hr:r < nb) (hg:g r=.row 0 (bools bl)):
 ∃ok,(ok=true↔ZDa m (toK la) (toK lm) (ZDm bl) a b)∧ZCm (fun v nb' g'=> v=.bool ok∧nb≤nb'∧nb'≤nb+32∧∀r,r < nb→g' r=g r) (ZCi Tryz.prog hs ks 14 [nv m,av,mv,.hs r 0 bl.length bl.length 1 ex,nv a,nv b] (mkH nb g d)):=by
 have hP:=zCV hchk
 obtain⟨res,hl,hlen,v,nb',g',d',hc,q1,q2,q3,_,q5⟩:=ZgH (ex:=ex) (d:=d) hm hA hM hLa hLm hchk hbl hnb hr hg
 obtain⟨rc,rfl,c1,c2,c3⟩:=q5 (by omega)
 have himp:=hl.impl hP (a:=a) (b:=b) (by rw[Qe];omega)
 have ka:res[a]?=some res[a]:=List.getElem?_eq_getElem (by omega)
 have kb:res[b]?=some res[b]:=List.getElem?_eq_getElem (by omega)
 generalize res[a]=xa at ka
 generalize res[b]=xb at kb
 rw[ka,kb] at himp
 refine⟨decide (xa=xb),by rw[himp];simp,?_⟩
 have h1:=Zp ka
 have h2:=Zp kb
 have e1:=eqN (a:=xa) (b:=xb)
 have hpu:V.pures (V.seals [nv m,av,mv,.hs r 0 bl.length bl.length 1 ex,nv a,nv b])=false:=by
  show(V.pure (nv m) && (V.pure (V.shut av) && (V.pure (V.shut mv) && (false && (V.pure (nv a) && (V.pure (nv b) && true))))))=false
  simp
 rw[zwH hpu,ZBr _ (by simp),Zw7]
 generalize hN:m+la.length=n at *
 have ha':a≤n:=by omega
 have hb':b≤n:=by omega
 simp(disch:=first|assumption|decide|omega)[hc,c3,h1,h2,Zu,hlen,ha',hb',e1]
 refine ZCm.mk ?_
 simp
 exact⟨q1,by omega,q3⟩
structure RX (m a b:Nat) (av mv:V) (len:Nat) (bl:List Bool) (f:Nat→V) (nb:Nat) (g:Nat→Blk):Prop where
 f0:f 0=nv m
 f1:f 1=av
 f2:f 2=mv
 f3:f 3=nv a
 f4:f 4=nv b
 f15:f 15=.hs 0 0 len len 1 true
 hl:bl.length=len
 hg:g 0=.row 0 (bools bl)
 hb:0 < nb
theorem RX.keep {m a b len:Nat} {av mv:V} {bl bl':List Bool} {f f':Nat→V} {nb nb':Nat} {g g':Nat→Blk} (h:RX m a b av mv len bl f nb g) (hf:f' 0=f 0∧f' 1=f 1∧f' 2=f 2∧f' 3=f 3∧f' 4=f 4∧f' 15=f 15) (hl:bl'.length=len) (hg:g' 0=.row 0 (bools bl')) (hb:0 < nb'):RX m a b av mv len bl' f' nb' g':=by
 obtain⟨h0,h1,h2,h3,h4,h15⟩:=hf
 exact⟨h0.trans h.f0,h1.trans h.f1,h2.trans h.f2,h3.trans h.f3,h4.trans h.f4,h15.trans h.f15,hl,hg,hb⟩
set_option maxHeartbeats 8000000 in
theorem ZB4 {m a b:Nat} {la lm:List PrI} {av mv:V} (hm:m≤16) (hA:InS av la) (hM:InS mv lm) (hLa:la.length≤16) (hLm:lm.length≤16) (hchk:ZCt m la lm=0) (ha:a < m+la.length) (hb:b < m+la.length):
 ∀(k i:Nat) (bl:List Bool) (f:Nat→V) (nb:Nat) (g:Nat→Blk) (d:List Nat),lm.length - i=k→i≤lm.length→RX m a b av mv lm.length bl f nb g→nb≤100+32 * i→f 16=nv i→
 ZhY 92 (fun e f' nb' g'=> e=.exit 0∧∃bl,RX m a b av mv lm.length bl f' nb' g') (C 13 ZiH (S 92 f [] (mkH nb g d))):=by
 have hMl:=ZC4 hM
 intro k
 induction k with
 |zero=>
  intro i bl f nb g d hk hi hI hnb f16
  obtain rfl:i=lm.length:=by omega
  have f2:=hI.f2
  have e2:ZmK .lss .i64 (lm.length:Int) .i64 (lm.length:Int)=some (.bool false):=by rw[ltN];simp
  rw[ZvF]
  simp(disch:=first|assumption|decide|omega)[f2,f16,hMl,e2]
  refine ZhY.mk ?_
  exact⟨rfl,bl,hI.keep (by simp) hI.hl hI.hg hI.hb⟩
 |succ k ih=>
  intro i bl f nb g d hk hi hI hnb f16
  have hil:i < lm.length:=by omega
  have hil':i≤lm.length:=by omega
  have f2:=hI.f2
  have e1:=add1 (a:=i) (by omega)
  have e2:ZmK .lss .i64 (i:Int) .i64 (lm.length:Int)=some (.bool true):=by rw[ltN];simp[hil]
  rw[ZvF]
  simp(disch:=first|assumption|decide|omega)[f2,f16,hMl,e2]
  rw[Zkk]
  refine ZhY.seq (P:=fun f' nb' g'=> (∃bl,RX m a b av mv lm.length bl f' nb' g')∧nb'≤100+32 * (i+1)∧f' 16=nv (i+1)) ?_ ?_
  ·refine ZhY.seq (P:=fun f' nb' g'=> (∃bl,RX m a b av mv lm.length bl f' nb' g')∧nb'≤100+32 * (i+1)∧f' 16=nv i) ?_ ?_
   ·rw[Zkm]
    refine ZhY.block (Q:=fun e f' nb' g'=> e=.normal∧(∃bl,RX m a b av mv lm.length bl f' nb' g')∧nb'≤100+32 * (i+1)∧f' 16=nv i) ?_ (fun f' nb' g' h=> by cases h.1) fun e f' nb' g' _ h=> h
    rw[Zkp]
    refine ZhY.seq (P:=fun f' nb' g'=> RX m a b av mv lm.length (bl.set i false) f' nb' g'∧nb'=nb∧f' 16=nv i) ?_ ?_
    ·have f15:=hI.f15
     have hg:=hI.hg
     have hb0:=hI.hb
     have hbl:=hI.hl
     have sp1:splice (bools bl) [.bool false] i=some (bools (bl.set i false)):=by rw[zaV (by rw[zwF];omega),zPD]
     rw[Zkq]
     simp(disch:=first|assumption|decide|omega)[f15,f16,hg,sp1,zwF,hbl,hil']
     refine ZhY.mk ?_
     exact⟨rfl,hI.keep (by simp) (by rw[List.length_set];exact hI.hl) (by simp) hI.hb,rfl,by simp[f16]⟩
    clear hI f2 f16
    generalize bl.set i false=bl1
    rintro f nb1 g d ⟨hI,rfl,f16⟩
    obtain⟨ok,_,v,nb',g',d',hc,rfl,p1,p2,p3⟩:=ZnC (ex:=true) (r:=0) (d:=d) hm hA hM hLa hLm hchk ha hb hI.hl (by omega) hI.hb hI.hg
    rw[hI.hl] at hc
    have f0:=hI.f0
    have f1:=hI.f1
    have f2:=hI.f2
    have f3:=hI.f3
    have f4:=hI.f4
    have f15:=hI.f15
    have hb0:=hI.hb
    have hbl:=hI.hl
    have hg':g' 0=.row 0 (bools bl1):=by rw[p3 0 hb0];exact hI.hg
    have hnb0:0 < nb':=by omega
    have sp1:splice (bools bl1) [.bool (!ok)] i=some (bools (bl1.set i (!ok))):=by rw[zaV (by rw[zwF];omega),zPD]
    have hl2:(bl1.set i (!ok)).length=lm.length:=by rw[List.length_set];exact hbl
    generalize bl1.set i (!ok)=bl2 at sp1 hl2
    rw[Zkr]
    simp(disch:=first|assumption|decide|omega)[f0,f1,f2,f3,f4,f15,f16,hc,hg',sp1,zwF,hbl,hil',List.length_set]
    refine ZhY.mk ?_
    exact⟨rfl,⟨bl2,hI.keep (by simp) hl2 (by simp) hnb0⟩,by omega,by simp[f16]⟩
   ·clear hI f2 f16
    rintro f nb g d ⟨⟨bl,hI⟩,hnb,f16⟩
    rw[Zkn]
    simp(disch:=first|assumption|decide|omega)[f16,e1]
    refine ZhY.mk ?_
    exact⟨rfl,⟨bl,hI.keep (by simp) hI.hl hI.hg hI.hb⟩,hnb,by simp⟩
  ·clear hI f2 f16
   rintro f nb g d ⟨⟨bl,hI⟩,hnb,f16⟩
   exact ih (i+1) bl f nb g d (by omega) hil hI hnb f16
set_option maxHeartbeats 8000000 in
theorem ZB5 {m a b:Nat} {lm:List PrI} {av mv:V} (hM:InS mv lm) (hLm:lm.length≤16):
 ∀(k i:Nat) (bl:List Bool) (out:List Nat) (f:Nat→V) (nb:Nat) (g:Nat→Blk) (d:List Nat),lm.length - i=k→i≤lm.length→out.length≤i→RX m a b av mv lm.length bl f nb g→SlR g 1 nb (f 17) out→f 18=nv i→
 ZhY 92 (fun e f' nb' g'=> e=.exit 2∧∃out,SlR g' 1 nb' (f' 17) out) (C 13 ZiJ (S 92 f [] (mkH nb g d))):=by
 have hMl:=ZC4 hM
 intro k
 induction k with
 |zero=>
  intro i bl out f nb g d hk hi hol hI hs f18
  obtain rfl:i=lm.length:=by omega
  have f2:=hI.f2
  have e2:ZmK .lss .i64 (lm.length:Int) .i64 (lm.length:Int)=some (.bool false):=by rw[ltN];simp
  rw[Zwp]
  simp(disch:=first|assumption|decide|omega)[f2,f18,hMl,e2]
  refine ZhY.mk ?_
  exact⟨rfl,out,by simpa using hs⟩
 |succ k ih=>
  intro i bl out f nb g d hk hi hol hI hs f18
  have hil:i < lm.length:=by omega
  have hil':i≤lm.length:=by omega
  have f2:=hI.f2
  have f15:=hI.f15
  have hg:=hI.hg
  have hb0:=hI.hb
  have hbl:=hI.hl
  have hbi:bl[i]?=some bl[i]:=List.getElem?_eq_getElem (by omega)
  generalize bl[i]=bi at hbi
  have h1:=zPC hbi
  have e1:=add1 (a:=i) (by omega)
  have e2:ZmK .lss .i64 (i:Int) .i64 (lm.length:Int)=some (.bool true):=by rw[ltN];simp[hil]
  rw[Zwp]
  simp(disch:=first|assumption|decide|omega)[f2,f18,hMl,e2]
  rw[ZkE]
  refine ZhY.seq (P:=fun f' nb' g'=> (∃out,out.length≤i+1∧RX m a b av mv lm.length bl f' nb' g'∧SlR g' 1 nb' (f' 17) out)∧f' 18=nv (i+1)) ?_ ?_
  ·refine ZhY.seq (P:=fun f' nb' g'=> (∃out,out.length≤i+1∧RX m a b av mv lm.length bl f' nb' g'∧SlR g' 1 nb' (f' 17) out)∧f' 18=nv i) ?_ ?_
   ·rw[ZkG]
    refine ZhY.block (Q:=fun e f' nb' g'=> e=.normal∧(∃out,out.length≤i+1∧RX m a b av mv lm.length bl f' nb' g'∧SlR g' 1 nb' (f' 17) out)∧f' 18=nv i) ?_ (fun f' nb' g' h=> by cases h.1) fun e f' nb' g' _ h=> h
    rw[ZkJ]
    refine ZhY.seq (P:=fun f' nb' g'=> RX m a b av mv lm.length bl f' nb' g'∧SlR g' 1 nb' (f' 17) out∧f' 18=nv i∧f' 86=.bool bi) ?_ ?_
    ·simp(disch:=first|assumption|decide|omega)[f15,f18,hg,h1,zwF,hbl,hil']
     refine ZhY.mk ?_
     exact⟨rfl,hI.keep (by simp) hI.hl hI.hg hI.hb,by simpa using hs,by simp[f18],by simp⟩
    clear hI f2 f15 hg hb0 hbl hs f18
    rintro f nb g d ⟨hI,hs,f18,f86⟩
    rw[ZkL]
    cases bi with
    |false=>
     simp(disch:=first|assumption|decide|omega)[f86]
     refine ZhY.mk ?_
     exact⟨rfl,⟨out,by omega,hI,hs⟩,f18⟩
    |true=>
     have hb0:=hI.hb
     simp(disch:=first|assumption|decide|omega) only[Zk,f86,Zt]
     have hol':(out++[i]).length≤i+1:=by rw[List.length_append];simp only[List.length_cons,List.length_nil];omega
     rw[ZkM]
     rcases ZE8 (g:=g) (lo:=1) (nb:=nb) hs (zyx i) (by omega) with ⟨h,hsv⟩|⟨h⟩|⟨r,e,cs',len,cx,lx,zx,ox,hy,hx,p1,p2,p3,h⟩
     ·simp(disch:=first|assumption|decide|omega)[f18,h]
      refine ZhY.mk ?_
      exact⟨rfl,⟨out++[i],hol',hI.keep (by simp) hI.hl hI.hg hI.hb,by simpa using hsv⟩,by simp[f18]⟩
     ·simp(disch:=first|assumption|decide|omega)[f18,h]
      refine ZhY.mk ?_
      have n1:¬0=nb:=by omega
      refine⟨rfl,⟨out++[i],hol',hI.keep (by simp) hI.hl ?_ (by omega),.inr (.inr ⟨nb,?_,by omega,by omega,?_⟩)⟩,by simp[f18]⟩
      ·simp(disch:=first|assumption|decide|omega)[hI.hg]
      ·simp
      ·simp
     ·cases hx
      have n1:¬0=r:=by omega
      simp(disch:=first|assumption|decide|omega)[f18,hy,h,p3]
      refine ZhY.mk ?_
      refine⟨rfl,⟨out++[i],hol',hI.keep (by simp) hI.hl ?_ hI.hb,.inr (.inr ⟨r,?_,p1,p2,?_⟩)⟩,by simp[f18]⟩
      ·simp(disch:=first|assumption|decide|omega)[hI.hg]
      ·simp
      ·simp
   ·clear hI f2 f15 hg hb0 hbl hs f18
    rintro f nb g d ⟨⟨out,hol,hI,hs⟩,f18⟩
    rw[ZkH]
    simp(disch:=first|assumption|decide|omega)[f18,e1]
    refine ZhY.mk ?_
    exact⟨rfl,⟨out,hol,hI.keep (by simp) hI.hl hI.hg hI.hb,by simpa using hs⟩,by simp⟩
  ·clear hI f2 f15 hg hb0 hbl hs f18
   rintro f nb g d ⟨⟨out,hol,hI,hs⟩,f18⟩
   exact ih (i+1) bl out f nb g d (by omega) hil hol hI hs f18
end
end
section
open Go Go.Ae
attribute [local simp] ZCl ZF JC JB ZR ZS Zo ZE Jx Jw Jq Zw Zk S_h ZH Zz ZM ZK ZL zt ZO ZN Z7 Zj Jp Z8 JD JE Zt Z0 ZCD ZP ZQ zq zB zz zA zo Z5 zr zO Jy Jz JG JH Z1 Z2 Z3 Z4 ZI Zy JF ZT ZW ZB ZA ZY ZX ZZ ZnB Zi3 V.ones Je Jd Jh Jg Jf Ji Jn Jo Jm ZV Jk Jl Jj zK ZU zL JA Jt Js Ju Jr Jv Ja Jb Jc Z9 max2 cond_true cond_false List.nil_append List.cons_append ZmG ZmF ZuB Zux Zuy Zuz ZuA ZiF Zin Zwl Zwf Zwg Zwh Zwi Zwj Zwk Zio ZwV ZwS ZwT ZwU Zw3 Zw4 ZuH ZuC ZuD ZuE ZuF ZuG ZuI Zw5 ZiI ZhT ZuJ ZuK ZuL ZuM ZuN ZuO ZhU ZhV Zu6 ZuP ZuQ ZuY ZuZ Zu0 Zu1 Zu2 Zu3 Zu4 Zu5 ZuR ZuS ZuT ZuU ZuV ZuW ZuX Zu7 Zu8 Zve Zva Zvb Zvc Zvd Zvf Zu9 ZjX Zj1 Zvg Zvh Zvi Zvj Zvk Zj3 ZiG Zj7 Zvl Zvm Zvn Zvo Zvp Zvq Zvr Zvs Zvt Zj9 Zvu ZvA Zvw Zvx Zvy Zvz ZvB Zvv Zj6 Zkd ZvE ZvC ZvD Zkg ZvG ZvH ZvN ZvI ZvJ ZvK ZvL ZvM ZvO ZvP ZvQ Zkk Zkm Zkp Zkq ZvV ZvW ZvX ZvY ZvZ Zkr Zv0 Zv1 Zv5 Zv6 Zv7 Zv8 Zv9 Zwa Zwb Zwc Zv2 Zv3 Zv4 Zkn ZvR ZvS ZvT ZvU Zkf Zks Zwd Zwe Zkv Zkx Zwo Zwm Zwn ZkA Zwq Zwr Zwx Zws Zwt Zwu Zwv Zww Zwy Zwz ZwA ZkE ZkG ZkJ ZwK ZwF ZwG ZwH ZwI ZwJ ZkL ZkM ZwL ZwM ZwN ZwO ZwP ZwQ ZwR ZkH ZwB ZwC ZwD ZwE Zkz Zw1 ZwW ZwX ZwY ZwZ Zw0 Zw2
section
attribute [local simp] ld3 ld4 ZCB ZCG ZCN ZCP ZCK ZCH ZEs ZEr JR JS sz3 sz4 ZCx ZCz sp2 JO zK zL JY JX aa1 ZEE zac
attribute [-simp] zo zr zq zz zA zB zO max2 ZiF Zin ZiI Zio ZhT ZhU ZhV ZjX Zj1 Zj3 ZiG Zj6 Zkd Zkf Zkg Zkm Zkn Zkp Zkq Zkr Zkv Zkx Zkz ZkA ZkG ZkH ZkJ ZkL ZkM Zkk ZkE Zks Zj7 Zj9
theorem ZAB {f:FuncId} {args args':List V} {ov:V} {ok:Bool} {e:Int} {out:List Nat} {nb1:Nat} {g1:Nat→Blk} {d1:List Nat} (hs':V.seals args=args') (hp:V.pures args'=true) (hk:ks.call f args'=none) (hh:hs.heap f=false)
 (hc:(EV Tryz.prog hs ks).call f args' (mkH 0 (fun _=> .gone) [])=some [(.ret (.tup [ov,.bool ok,.int .i64 e]),mkH nb1 g1 d1)]) (hsl:SlR g1 0 nb1 ov out) (nb:Nat) (g:Nat→Blk) (d:List Nat):
 ∃ov' nb' g',SlV ov' out∧(V.cells ov'=[ov']∧V.one ov'=true)∧ZCi Tryz.prog hs ks f args (mkH nb g d)=some [(.ret (.tup [ov',.bool ok,.int .i64 e]),mkH nb' g' d)]∧nb≤nb'∧nb'≤nb+1∧∀r,r < nb→g' r=g r:=by
 rw[←zDI] at hc
 rcases hsl with ⟨rfl,rfl⟩|rfl|⟨r,rfl,_,hr,hg⟩
 ·exact⟨.nils,nb,g,.inl ⟨rfl,rfl⟩,⟨rfl,rfl⟩,zPN hs' hp hk hh hc nb {v:=.tup [.nils,.bool ok,.int .i64 e]} rfl rfl (mkH nb g d) rfl,Nat.le_refl _,by omega,fun _ _=> rfl⟩
 ·exact⟨.vs (ints out) out.length 1 .tight,nb,g,.inr ⟨_,rfl⟩,⟨rfl,rfl⟩,zPN hs' hp hk hh hc nb {v:=.tup [.vs (ints out) out.length 1 .tight,.bool ok,.int .i64 e]} rfl rfl (mkH nb g d) rfl,Nat.le_refl _,by omega,fun _ _=> rfl⟩
 ·have he:ZD3 nb (mkH nb1 g1 d1) (.tup [.vs (ints out) out.length 1 (.tok r out.length),.bool ok,.int .i64 e])=some {v:=.tup [.vs (ints out) out.length 1 (.tok nb out.length),.bool ok,.int .i64 e],nw:=[.tok out.length]}:=by
   show(match ZC5 (Ae.freeze (mkH nb1 g1 d1) 60) [.bool ok,.int .i64 e] with
    |some vs=> match (mkH nb1 g1 d1).get r with
     |.tok hw=> if hw=out.length then some ({v:=.tup (.vs (ints out) out.length 1 (.tok nb out.length)::vs),nw:=[.tok out.length]}:Eff) else some {v:=.tup (.vs (ints out) out.length 1 .lock::vs)}
     |_=> some {v:=.tup (.vs (ints out) out.length 1 .lock::vs)}
    |none=> none)=_
   rw[Zj hr,hg]
   show(if out.length=out.length then _ else _)=_
   rw[if_pos rfl]
  have hcc:=zPN hs' hp hk hh hc nb _ he rfl (mkH nb g d) rfl
  refine⟨.vs (ints out) out.length 1 (.tok nb out.length),nb+1,atB g nb (.tok out.length),.inr ⟨_,rfl⟩,⟨rfl,rfl⟩,?_,by omega,Nat.le_refl _,fun r' hr'=> ZN _ _ (by omega)⟩
  rw[hcc,ZK,Z8]
set_option maxHeartbeats 4000000 in
theorem ZB6 {t:Int} {la lm:List PrI} {av mv:V} {a b:Int} (ht:t≤16) (hA:InS av la) (hM:InS mv lm) (hLa:la.length≤16) (hLm:lm.length≤16) (he:ZCt t la lm=2∨ZCt t la lm=0∧inR a b (t+la.length)=false):
 ZCm (fun v _ _=> v=.tup [.nils,.bool false,.int .i64 2]) ((EV Tryz.prog hs ks).call 13 [.int .i64 t,av,mv,.int .i64 a,.int .i64 b] (mkH 0 (fun _=> .gone) [])):=by
 have hck:=zYB (t:=t) ht hA hM hLa hLm
 have hAl:=ZC4 hA
 rw[Zw6 _ (by simp),ZmF]
 refine ZhY.rets (n:=92) (Q:=fun e f' _ _=> e=.ret∧f' 10=.nils∧f' 11=.bool false∧f' 12=.int .i64 2) ?_ ?_
 ·refine ZhY.seq (P:=fun f' nb' g'=> f' 0=.int .i64 t∧f' 1=av∧f' 2=mv∧f' 3=.int .i64 a∧f' 4=.int .i64 b) ?_ ?_
  ·simp(disch:=first|assumption|decide|omega)
   refine ZhY.mk ?_
   exact⟨rfl,by simp,by simp,by simp,by simp,by simp⟩
  rintro f nb g d ⟨f0,f1,f2,f3,f4⟩
  rw[ZiF]
  rcases he with he|⟨he,hr⟩
  ·rw[he] at hck
   have hneq:ZmK .neq .i64 2 .i64 0=some (.bool true):=rfl
   simp(disch:=first|assumption|decide|omega)[Zin,Zio,f0,f1,f2,hck,hneq]
   refine ZhY.mk ?_
   exact⟨rfl,by simp,by simp,by simp⟩
  ·rw[he] at hck
   obtain⟨h0,_,_⟩:=zDD he
   have hneq:ZmK .neq .i64 0 .i64 0=some (.bool false):=rfl
   refine ZhY.seq (P:=fun f' nb' g'=> f' 0=.int .i64 t∧f' 1=av∧f' 3=.int .i64 a∧f' 4=.int .i64 b) ?_ ?_
   ·simp(disch:=first|assumption|decide|omega)[Zin,Zio,f0,f1,f2,hck,hneq]
    refine ZhY.mk ?_
    exact⟨rfl,by simp[f0],by simp[f1],by simp[f3],by simp[f4]⟩
   clear f0 f1 f2 f3 f4
   rintro f nb g d ⟨f0,f1,f3,f4⟩
   have e3:ZmK .add .i64 t .i64 (la.length:Int)=some (.int .i64 (t+la.length)):=by rw[zq,za4 (by omega) (by omega)]
   have l0:∀x:Int,ZmK .lss .i64 x .i64 0=some (.bool (decide (x < 0))):=fun x=> by rw[zo]
   have g0:∀x:Int,ZmK .geq .i64 x .i64 (t+la.length)=some (.bool (decide (t+la.length≤x))):=fun x=> by rw[zO]
   have hr':a < 0∨(¬a < 0∧t+la.length≤a)∨(¬a < 0∧¬t+la.length≤a∧b < 0)∨(¬a < 0∧¬t+la.length≤a∧¬b < 0∧t+la.length≤b):=by
    unfold inR wit at hr
    simp only[Bool.and_eq_false_iff,decide_eq_false_iff_not] at hr
    omega
   rw[ZiI]
   rcases hr' with h1|⟨h1,h2⟩|⟨h1,h2,h3⟩|⟨h1,h2,h3,h4⟩
   ·simp(disch:=first|assumption|decide|omega)[ZhT,ZhU,ZhV,f0,f1,f3,f4,hAl,e3,l0,g0,h1]
    refine ZhY.mk ?_
    exact⟨rfl,by simp,by simp,by simp⟩
   ·simp(disch:=first|assumption|decide|omega)[ZhT,ZhU,ZhV,f0,f1,f3,f4,hAl,e3,l0,g0,h1,h2]
    refine ZhY.mk ?_
    exact⟨rfl,by simp,by simp,by simp⟩
   ·simp(disch:=first|assumption|decide|omega)[ZhT,ZhU,ZhV,f0,f1,f3,f4,hAl,e3,l0,g0,h1,h2,h3]
    refine ZhY.mk ?_
    exact⟨rfl,by simp,by simp,by simp⟩
   ·simp(disch:=first|assumption|decide|omega)[ZhT,ZhU,ZhV,f0,f1,f3,f4,hAl,e3,l0,g0,h1,h2,h3,h4]
    refine ZhY.mk ?_
    exact⟨rfl,by simp,by simp,by simp⟩
 ·rintro e f' nb' g' d' ⟨rfl,h1,h2,h3⟩
  rw[ZmG]
  simp(disch:=first|assumption|decide|omega)[h1,h2,h3]
  exact ZCm.mk rfl
structure RxQ (m a b:Nat) (la lm:List PrI) (f:Nat→V) (nb:Nat) (g:Nat→Blk):Prop where
 ex:∃ov ok out,f 10=ov∧f 11=.bool ok∧f 12=.int .i64 0∧(ok=true↔ZDa m (toK la) (toK lm) (fun _=> true) a b)∧SlR g 0 nb ov out
theorem ZA0 {m a b n:Nat} {apps merges:List Key} (h:merges.length=n):ZDa m apps merges (ZDm (List.replicate n true)) a b↔ZDa m apps merges (fun _=> true) a b:=by
 constructor
 ·exact fun hi=> hi.mono fun i _ _=> rfl
 ·exact fun hi=> hi.mono fun i hi' _=> by
   unfold ZDm
   rw[List.getElem?_replicate,if_pos (by omega)];rfl
set_option maxHeartbeats 8000000 in
theorem ZB7 {m a b:Nat} {la lm:List PrI} {av mv:V} (hm:m≤16) (hA:InS av la) (hM:InS mv lm) (hLa:la.length≤16) (hLm:lm.length≤16) (hchk:ZCt m la lm=0) (ha:a < m+la.length) (hb:b < m+la.length):
 ZCm (fun v nb' g'=> ∃ov ok out,v=.tup [ov,.bool ok,.int .i64 0]∧(ok=true↔ZDa m (toK la) (toK lm) (fun _=> true) a b)∧SlR g' 0 nb' ov out) ((EV Tryz.prog hs ks).call 13 [nv m,av,mv,nv a,nv b] (mkH 0 (fun _=> .gone) [])):=by
 have hck:=zYB (t:=(m:Int)) (by omega) hA hM hLa hLm
 rw[hchk] at hck
 have hAl:=ZC4 hA
 have hMl:=ZC4 hM
 have hneq:ZmK .neq .i64 0 .i64 0=some (.bool false):=rfl
 obtain⟨n,hn⟩:∃n,n=m+la.length:=⟨_,rfl⟩
 have e3:ZmK .add .i64 (m:Int) .i64 (la.length:Int)=some (nv n):=by rw[hn];exact addN (by omega)
 have l0:∀x:Nat,ZmK .lss .i64 (x:Int) .i64 0=some (.bool false):=fun x=> lt0
 have ga:ZmK .geq .i64 (a:Int) .i64 (n:Int)=some (.bool false):=by rw[geN,decide_eq_false (by omega)]
 have gb:ZmK .geq .i64 (b:Int) .i64 (n:Int)=some (.bool false):=by rw[geN,decide_eq_false (by omega)]
 rw[Zw6 _ (by simp),ZmF]
 refine ZhY.rets (n:=92) (Q:=fun e f' nb' g'=> e=.ret∧RxQ m a b la lm f' nb' g') ?_ ?_
 ·refine ZhY.seq (P:=fun f' nb' g'=> nb'=0∧f' 0=nv m∧f' 1=av∧f' 2=mv∧f' 3=nv a∧f' 4=nv b) ?_ ?_
  ·simp(disch:=first|assumption|decide|omega)
   refine ZhY.mk ?_
   exact⟨rfl,rfl,by simp,by simp,by simp,by simp,by simp⟩
  rintro f nb g d ⟨rfl,f0,f1,f2,f3,f4⟩
  rw[ZiF]
  refine ZhY.seq (P:=fun f' nb' g'=> nb'=0∧f' 0=nv m∧f' 1=av∧f' 2=mv∧f' 3=nv a∧f' 4=nv b) ?_ ?_
  ·simp(disch:=first|assumption|decide|omega)[Zin,Zio,f0,f1,f2,hck,hneq]
   refine ZhY.mk ?_
   exact⟨rfl,rfl,by simp[f0],by simp[f1],by simp[f2],by simp[f3],by simp[f4]⟩
  clear f0 f1 f2 f3 f4
  rintro f nb g d ⟨rfl,f0,f1,f2,f3,f4⟩
  rw[ZiI]
  refine ZhY.seq (P:=fun f' nb' g'=> nb'=0∧f' 0=nv m∧f' 1=av∧f' 2=mv∧f' 3=nv a∧f' 4=nv b∧f' 14=nv n) ?_ ?_
  ·rw[ZhT]
   simp(disch:=first|assumption|decide|omega)[f0,f1,hAl,e3]
   refine ZhY.mk ?_
   exact⟨rfl,rfl,by simp[f0],by simp[f1],by simp[f2],by simp[f3],by simp[f4],by simp⟩
  clear f0 f1 f2 f3 f4
  rintro f nb g d ⟨rfl,f0,f1,f2,f3,f4,f14⟩
  rw[ZhU]
  refine ZhY.seq (P:=fun f' nb' g'=> nb'=0∧f' 0=nv m∧f' 1=av∧f' 2=mv∧f' 3=nv a∧f' 4=nv b) ?_ ?_
  ·rw[ZhV]
   simp(disch:=first|assumption|decide|omega)[f3,f4,f14,l0,ga,gb]
   refine ZhY.mk ?_
   exact⟨rfl,rfl,by simp[f0],by simp[f1],by simp[f2],by simp[f3],by simp[f4]⟩
  clear f0 f1 f2 f3 f4 f14
  rintro f nb g d ⟨rfl,f0,f1,f2,f3,f4⟩
  rw[ZjX]
  obtain⟨ga',hal,hga⟩:=ZgG (n:=lm.length) (by omega) g d
  refine ZhY.seq (P:=fun f' nb' g'=> nb'=1∧RX m a b av mv lm.length (List.replicate lm.length true) f' nb' g') ?_ ?_
  ·rw[Zj1]
   simp(disch:=first|assumption|decide|omega)[f2,hMl,hal]
   refine ZhY.mk ?_
   exact⟨rfl,rfl,⟨by simp[f0],by simp[f1],by simp[f2],by simp[f3],by simp[f4],by simp,List.length_replicate,hga,by omega⟩⟩
  clear f0 f1 f2 f3 f4
  rintro f nb g d ⟨rfl,hI⟩
  rw[Zj3]
  obtain⟨ok,hok,v,nb1,g1,d1,hc,rfl,p1,p2,p3⟩:=ZnC (ex:=true) (r:=0) (d:=d) hm hA hM hLa hLm hchk ha hb hI.hl (by omega) hI.hb hI.hg
  rw[hI.hl] at hc
  rw[ZA0 (by rw[Qe])] at hok
  have f0:=hI.f0
  have f1:=hI.f1
  have f2:=hI.f2
  have f3:=hI.f3
  have f4:=hI.f4
  have f15:=hI.f15
  have hg1:g1 0=.row 0 (bools (List.replicate lm.length true)):=by rw[p3 0 (by omega)];exact hI.hg
  cases ok with
  |false=>
   simp(disch:=first|assumption|decide|omega)[ZiG,Zj7,Zj9,f0,f1,f2,f3,f4,f15,hc]
   refine ZhY.mk ?_
   exact⟨rfl,⟨⟨.nils,false,[],by simp,by simp,by simp,hok,.inl ⟨rfl,rfl⟩⟩⟩⟩
  |true=>
   refine ZhY.seq (P:=fun f' nb' g'=> nb'≤100∧RX m a b av mv lm.length (List.replicate lm.length true) f' nb' g') ?_ ?_
   ·simp(disch:=first|assumption|decide|omega)[ZiG,Zj7,Zj9,f0,f1,f2,f3,f4,f15,hc]
    refine ZhY.mk ?_
    exact⟨rfl,by omega,hI.keep (by simp) hI.hl hg1 (by omega)⟩
   clear hI f0 f1 f2 f3 f4 f15 hc hg1
   rintro f nb g d ⟨hnb,hI⟩
   rw[Zj6]
   refine ZhY.seq (P:=fun f' nb' g'=> ∃bl,RX m a b av mv lm.length bl f' nb' g') ?_ ?_
   ·rw[Zkd]
    simp(disch:=first|assumption|decide|omega)
    rw[Zkg]
    refine ZhY.block (ZB4 hm hA hM hLa hLm hchk ha hb lm.length 0 (List.replicate lm.length true) _ _ _ _ rfl (Nat.zero_le _) (hI.keep (by simp) hI.hl hI.hg hI.hb) (by omega) (by simp)) ?_ ?_
    ·rintro f' nb' g' ⟨_,h⟩;exact⟨rfl,h⟩
    ·rintro e f' nb' g' hne ⟨rfl,_⟩;exact absurd rfl hne
   clear hI hnb
   rintro f nb g d ⟨bl,hI⟩
   rw[Zkf]
   refine ZhY.seq (P:=fun f' nb' g'=> RX m a b av mv lm.length bl f' nb' g'∧f' 17=.nils) ?_ ?_
   ·rw[Zks]
    simp(disch:=first|assumption|decide|omega)
    refine ZhY.mk ?_
    exact⟨rfl,hI.keep (by simp) hI.hl hI.hg hI.hb,by simp⟩
   clear hI
   rintro f nb g d ⟨hI,f17⟩
   rw[Zkv]
   refine ZhY.seq (P:=fun f' nb' g'=> ∃out,SlR g' 1 nb' (f' 17) out) ?_ ?_
   ·rw[Zkx]
    simp(disch:=first|assumption|decide|omega)
    rw[ZkA]
    refine ZhY.block (ZB5 (m:=m) (a:=a) (b:=b) (av:=av) hM hLm lm.length 0 bl [] _ _ _ _ rfl (Nat.zero_le _) (Nat.le_refl _) (hI.keep (by simp) hI.hl hI.hg hI.hb) (.inl ⟨?_,rfl⟩) ?_) ?_ ?_
    ·simp[f17]
    ·simp
    ·rintro f' nb' g' ⟨_,h⟩;exact⟨rfl,h⟩
    ·rintro e f' nb' g' hne ⟨rfl,_⟩;exact absurd rfl hne
   clear hI f17
   rintro f nb g d ⟨out,hs⟩
   rw[Zkz]
   simp(disch:=first|assumption|decide|omega)
   refine ZhY.mk ?_
   refine⟨rfl,⟨⟨f 17,true,out,by simp,by simp,by simp,hok,?_⟩⟩⟩
   rcases hs with q|q|⟨r,q5,q6,q7,q8⟩
   ·exact .inl q
   ·exact .inr (.inl q)
   ·exact .inr (.inr ⟨r,q5,Nat.zero_le _,q7,q8⟩)
 ·rintro e f' nb' g' d' ⟨rfl,ov,ok,out,h1,h2,h3,h4,h5⟩
  obtain⟨c1,c2⟩:V.cells ov=[ov]∧V.one ov=true:=by
   rcases h5 with ⟨h,_⟩|h|⟨r,h,_⟩ <;> rw[h] <;> exact⟨rfl,rfl⟩
  rw[ZmG]
  have he:ZCp (ZCk Tryz.prog (S 92 f' [] (mkH nb' g' d')) [.tmp 10,.tmp 11,.tmp 12]) (mkH nb' g' d')=some [(.ret (.tup [ov,.bool ok,.int .i64 0]),mkH nb' g' d')]:=by
   simp(disch:=first|assumption|decide|omega)[h1,h2,h3,c1,c2]
  rw[he]
  exact ZCm.mk ⟨ov,ok,out,rfl,h4,h5⟩
end
end
section
open Go Go.Ae
attribute [local simp] ZCl ZF JC JB ZR ZS Zo ZE Jx Jw Jq Zw Zk S_h ZH Zz ZM ZK ZL zt ZO ZN Z7 Zj Jp Z8 JD JE Zt Z0 ZCD ZP ZQ zq zB zz zA zo Z5 zr zO Jy Jz JG JH Z1 Z2 Z3 Z4 ZI Zy JF ZT ZW ZB ZA ZY ZX ZZ ZnB Zi3 V.ones Je Jd Jh Jg Jf Ji Jn Jo Jm ZV Jk Jl Jj zK ZU zL JA Jt Js Ju Jr Jv Ja Jb Jc Z9 max2 cond_true cond_false List.nil_append List.cons_append Zuk ZHA Zxe Zxb Zxc Zxd Zm2 Zl4 ZyS ZyJ ZyK ZyL ZyM ZyN ZyO ZyP ZyQ ZyR ZzA ZzI ZAp ZAm ZAn ZAo ZAv ZzU Zna ZlP Zxf Zxg Zxo Zxp Zxq Zxr Zxs Zxt Zxu Zxv Zxh Zxi Zxj Zxk Zxl Zxm Zxn ZlR ZlS Zxw Zxx ZxF ZxG ZxH ZxI ZxJ ZxK ZxL ZxM Zxy Zxz ZxA ZxB ZxC ZxD ZxE ZlU ZlW ZxW ZxN ZxO ZxP ZxQ ZxR ZxS ZxT ZxU ZxV ZxX ZxY ZlY ZiZ Zx2 ZxZ Zx0 Zx1 Zx3 Zx4 Zye Zx6 Zx7 Zx8 Zx9 Zya Zyb Zyc Zyd Zyf Zx5 Zm3 Zm4 Zyg Zyh Zyi Zyj Zyk Zyl Zm5 Zm6 Zyq Zym Zyn Zyo Zyp Zm9 Zyr Zyu Zys Zyt Zyv Zyw Zyx Zyy Znb Znd Znf ZyI ZyC ZyD ZyE ZyF ZyG ZyH Zng Znh Zzk ZyY ZyZ Zza Zzd Zze Zzf Zzg Zzh Zzi Zzj Zy0 Zy1 Zy2 Zy3 Zy4 Zy5 Zy6 Zy7 Zy8 Zy9 Zzb Zzc Zzl Zzm Zni ZyT ZyU ZyV ZyW ZyX Zne Zyz ZyA ZyB Zm7 Znj Zzz Zzn Zzo Zzr Zzs Zzt Zzu Zzv Zzw Zzx Zzy Zzp Zzq ZzB ZzC Znk Znl ZzH ZzD ZzE ZzF ZzG Zno ZzJ ZzM ZzK ZzL ZzN ZzO ZzP ZzQ Znp Znr Znt ZzZ ZzV ZzW ZzX ZzY Znu Znv Zz0 Zz1 Zz2 Zz3 Zz4 Znw Znx Znz ZAa ZAb ZAd ZAe ZAf ZAg ZAh ZAi ZAj ZAk ZAc ZnA ZAl Zny Zz5 Zz6 Zz7 Zz8 Zz9 Zns ZzR ZzS ZzT Znm ZAt ZAq ZAr ZAs ZAu
section
attribute [local simp] ld3 ld4 ZCB ZCG ZCN ZCP ZCK ZCH ZEs ZEr JR JS sz3 sz4 ZCx ZCz sp2 JO zK zL JY JX aa1
attribute [-simp] zo zr zq zz zA zB zO max2 Znd Zne Znf Zng Znh Zni Znb Znr Zns Znt Znu Znw Znx Zny Znz ZnA Znv Znp
theorem ZJn {get:Nat→Blk} {nid r off len cap z:Nat} {ex:Bool}:ZmL Tryz.prog false get nid .len [39] [.hs r off len cap z ex]=some {v:=nv len}:=by simp[ZmL,ZDQ,ZHL]
structure LX (m a b u len:Nat) (av mv ov:V) (bl:List Bool) (f:Nat→V) (nb:Nat) (g:Nat→Blk):Prop where
 f1:f 1=nv a
 f2:f 2=nv b
 f3:f 3=.ptr 0 0
 f7:f 7=ov
 f13:f 13=.hs u 0 len len 1 true
 u0:0 < u
 un:u < nb
 g0:g 0=.row 0 [nv m,av,mv]
 gu:g u=.row 0 (bools bl)
 hl:bl.length=len
theorem LX.keep {m a b u len:Nat} {av mv ov:V} {bl bl':List Bool} {f f':Nat→V} {nb nb':Nat} {g g':Nat→Blk} (h:LX m a b u len av mv ov bl f nb g) (hf:f' 1=f 1∧f' 2=f 2∧f' 3=f 3∧f' 7=f 7∧f' 13=f 13) (hn:nb≤nb') (h0:g' 0=g 0) (hu:g' u=.row 0 (bools bl')) (hl:bl'.length=len):LX m a b u len av mv ov bl' f' nb' g':=by
 obtain⟨h1,h2,h3,h7,h13⟩:=hf
 have:=h.un
 exact⟨h1.trans h.f1,h2.trans h.f2,h3.trans h.f3,h7.trans h.f7,h13.trans h.f13,h.u0,by omega,h0.trans h.g0,hu,hl⟩
def Ind (out:List Nat) (bl:List Bool):Prop:=∀j,j < bl.length→bl[j]?=some (decide (j∈out))
theorem Ind.set {out:List Nat} {bl:List Bool} {k:Nat} (h:Ind out bl):Ind (out++[k]) (bl.set k true):=fun j hj=> by
 rw[List.length_set] at hj
 rw[List.getElem?_set]
 by_cases hk:k=j
 ·subst hk
  rw[if_pos rfl,if_pos hj];simp
 ·rw[if_neg hk,h j hj]
  congr 1
  have:(j∈out++[k])↔j∈out:=by
   rw[List.mem_append,List.mem_singleton]
   exact⟨fun h=> h.resolve_right fun e=> hk e.symm,.inl⟩
  simp[this]
theorem Ind.used {out:List Nat} {bl:List Bool} (h:Ind out bl) {j:Nat} (hj:j < bl.length):ZDm bl j=decide (j∈out):=by unfold ZDm;rw[h j hj];rfl
theorem ZCe {bl:List Bool} {k j:Nat} (hj:j < bl.length):ZDm (bl.set k false) j=(ZDm bl j && decide (j≠k)):=by
 unfold ZDm
 rw[List.getElem?_set]
 by_cases hk:k=j
 ·subst hk
  rw[if_pos rfl,if_pos hj];simp
 ·rw[if_neg hk]
  have:j≠k:=fun e=> hk e.symm
  simp[this]
theorem ZCb {bl:List Bool} {k:Nat} (h:bl[k]?=some true):(bl.set k false).set k true=bl:=by
 apply List.ext_getElem?
 intro j
 rw[List.getElem?_set,List.length_set,List.getElem?_set]
 have hk:=(List.getElem?_eq_some_iff.1 h).1
 by_cases hj:k=j
 ·subst hj;rw[if_pos rfl,if_pos hk,h]
 ·rw[if_neg hj,if_neg hj]
set_option maxHeartbeats 8000000 in
theorem ZAM {m a b u len:Nat} {av mv ov:V} {out:List Nat} {o:Own} (hov:ov=.vs (ints out) out.length 1 o) (hol:out.length < 1000) (hlen:len < 1000) (hsrt:out.Pairwise (· < ·)) (hlt:∀k∈out,k < len):
 ∀(k i:Nat) (bl:List Bool) (f:Nat→V) (nb:Nat) (g:Nat→Blk) (d:List Nat),out.length - i=k→i≤out.length→Ind (out.take i) bl→LX m a b u len av mv ov bl f nb g→f 73=ov→f 74=nv out.length→f 75=nv i→
 ZhY 140 (fun e f' nb' g'=> e=.exit 0∧nb'=nb∧∃bl,Ind out bl∧LX m a b u len av mv ov bl f' nb' g') (C 4 Zi1 (S 140 f [] (mkH nb g d))):=by
 subst hov
 intro k
 induction k with
 |zero=>
  intro i bl f nb g d hk hi hind hI f73 f74 f75
  obtain rfl:i=out.length:=by omega
  rw[List.take_length] at hind
  have e2:ZmK .lss .i64 (out.length:Int) .i64 (out.length:Int)=some (.bool false):=by rw[ltN];simp
  rw[Zua]
  simp(disch:=first|assumption|decide|omega)[f74,f75,e2]
  refine ZhY.mk ?_
  exact⟨rfl,rfl,bl,hind,hI.keep (by simp) (Nat.le_refl _) rfl hI.gu hI.hl⟩
 |succ k ih=>
  intro i bl f nb g d hk hi hind hI f73 f74 f75
  have hil:i < out.length:=by omega
  have hg:out[i]?=some out[i]:=List.getElem?_eq_getElem hil
  have htk:out.take (i+1)=out.take i++[out[i]]:=List.take_succ_eq_append_getElem hil
  generalize hq:out[i]=q at hg htk
  have hqm:q∈out:=List.mem_of_getElem? hg
  have hql:=hlt q hqm
  have hql':q≤len:=by omega
  have h1:=Zp hg
  have e1:=add1 (a:=i) (by omega)
  have e2:ZmK .lss .i64 (i:Int) .i64 (out.length:Int)=some (.bool true):=by rw[ltN];simp[hil]
  have e3:ZmK .geq .i64 (q:Int) .i64 (len:Int)=some (.bool false):=by rw[geN,decide_eq_false (by omega)]
  have hl:=hI.hl
  have sp1:splice (bools bl) [.bool true] q=some (bools (bl.set q true)):=by rw[zaV (by rw[zwF];omega),zPD]
  rw[Zua]
  simp(disch:=first|assumption|decide|omega)[f74,f75,e2]
  rw[Znb]
  refine ZhY.seq (P:=fun f' nb' g'=> nb'=nb∧LX m a b u len av mv (.vs (ints out) out.length 1 o) (bl.set q true) f' nb' g'∧f' 73=.vs (ints out) out.length 1 o∧f' 74=nv out.length∧f' 75=nv (i+1)) ?_ ?_
  ·refine ZhY.seq (P:=fun f' nb' g'=> nb'=nb∧LX m a b u len av mv (.vs (ints out) out.length 1 o) (bl.set q true) f' nb' g'∧f' 73=.vs (ints out) out.length 1 o∧f' 74=nv out.length∧f' 75=nv i) ?_ ?_
   ·rw[Znd]
    refine ZhY.block (Q:=fun e f' nb' g'=> e=.normal∧nb'=nb∧LX m a b u len av mv (.vs (ints out) out.length 1 o) (bl.set q true) f' nb' g'∧f' 73=.vs (ints out) out.length 1 o∧f' 74=nv out.length∧f' 75=nv i) ?_ (fun f' nb' g' h=> by cases h.1) fun e f' nb' g' _ h=> h
    rw[Znf]
    refine ZhY.seq (P:=fun f' nb' g'=> nb'=nb∧LX m a b u len av mv (.vs (ints out) out.length 1 o) bl f' nb' g'∧f' 73=.vs (ints out) out.length 1 o∧f' 74=nv out.length∧f' 75=nv i∧f' 14=nv i∧f' 15=nv q) ?_ ?_
    ·simp(disch:=first|assumption|decide|omega)[f73,f75,h1]
     refine ZhY.mk ?_
     exact⟨rfl,rfl,hI.keep (by simp) (Nat.le_refl _) rfl hI.gu hI.hl,by simp[f73],by simp[f74],by simp[f75],by simp,by simp⟩
    clear hI f73 f74 f75
    rintro f nb1 g d ⟨rfl,hI,f73,f74,f75,f14,f15⟩
    rw[Zng]
    refine ZhY.seq (P:=fun f' nb' g'=> nb'=nb1∧LX m a b u len av mv (.vs (ints out) out.length 1 o) bl f' nb' g'∧f' 73=.vs (ints out) out.length 1 o∧f' 74=nv out.length∧f' 75=nv i∧f' 15=nv q) ?_ ?_
    ·have f7:=hI.f7
     have f13:=hI.f13
     rw[Znh]
     by_cases hi0:i=0
     ·have e4:ZmK .gtr .i64 (i:Int) .i64 0=some (.bool false):=by rw[gt0,decide_eq_false (by omega)]
      simp(disch:=first|assumption|decide|omega)[f13,f14,f15,lt0,ZJn,e3,e4]
      refine ZhY.mk ?_
      exact⟨rfl,rfl,hI.keep (by simp) (Nat.le_refl _) rfl hI.gu hI.hl,by simp[f73],by simp[f74],by simp[f75],by simp[f15]⟩
     ·have e4:ZmK .gtr .i64 (i:Int) .i64 0=some (.bool true):=by rw[gt0,decide_eq_true (by omega)]
      obtain⟨j,hj,hji⟩:∃j,ZmK .sub .i64 (i:Int) .i64 1=some (nv j)∧j+1=i:=⟨i - 1,ZDT (b:=1) (by omega) (by omega),by omega⟩
      have hjl:j < out.length:=by omega
      have hgj:out[j]?=some out[j]:=List.getElem?_eq_getElem hjl
      have hlt':out[j] < q:=by rw[←hq];exact List.pairwise_iff_getElem.1 hsrt j i hjl hil (by omega)
      generalize out[j]=p at hgj hlt'
      have h2:=Zp hgj
      have e5:ZmK .geq .i64 (p:Int) .i64 (q:Int)=some (.bool false):=by rw[geN,decide_eq_false (by omega)]
      simp(disch:=first|assumption|decide|omega)[f7,f13,f14,f15,lt0,ZJn,e3,e4,hj,h2,e5]
      refine ZhY.mk ?_
      exact⟨rfl,rfl,hI.keep (by simp) (Nat.le_refl _) rfl hI.gu hI.hl,by simp[f73],by simp[f74],by simp[f75],by simp[f15]⟩
    clear hI f73 f74 f75 f14 f15
    rintro f nb2 g d ⟨rfl,hI,f73,f74,f75,f15⟩
    have f13:=hI.f13
    have gu:=hI.gu
    have un:=hI.un
    have u0:=hI.u0
    have n0:¬0=u:=by omega
    rw[Zni]
    simp(disch:=first|assumption|decide|omega)[f13,f15,gu,sp1,zwF,hl,hql']
    refine ZhY.mk ?_
    exact⟨rfl,rfl,hI.keep (by simp) (Nat.le_refl _) (by simp[n0]) (by simp) (by rw[List.length_set];exact hl),by simp[f73],by simp[f74],by simp[f75]⟩
   ·clear hI f73 f74 f75
    rintro f nb2 g d ⟨rfl,hI,f73,f74,f75⟩
    rw[Zne]
    simp(disch:=first|assumption|decide|omega)[f75,e1]
    refine ZhY.mk ?_
    exact⟨rfl,rfl,hI.keep (by simp) (Nat.le_refl _) rfl hI.gu hI.hl,by simp[f73],by simp[f74],by simp⟩
  ·clear hI f73 f74 f75
   rintro f nb2 g d ⟨rfl,hI,f73,f74,f75⟩
   exact ih (i+1) (bl.set q true) f nb2 g d (by omega) hil (by rw[htk];exact hind.set) hI f73 f74 f75
set_option maxHeartbeats 8000000 in
theorem ZAN {m a b u:Nat} {la lm:List PrI} {av mv ov:V} {out:List Nat} {o:Own} {bl:List Bool} (hm:m≤16) (hA:InS av la) (hM:InS mv lm) (hLa:la.length≤16) (hLm:lm.length≤16) (hchk:ZCt m la lm=0) (ha:a < m+la.length) (hb:b < m+la.length) (hov:ov=.vs (ints out) out.length 1 o) (hol:out.length≤16) (hF:Found m a b (toK la) (toK lm) out) (hind:Ind out bl):
 ∀(k i:Nat) (f:Nat→V) (nb:Nat) (g:Nat→Blk) (d:List Nat),out.length - i=k→i≤out.length→LX m a b u lm.length av mv ov bl f nb g→nb≤100+32 * i→f 116=ov→f 117=nv out.length→f 118=nv i→
 ZhY 140 (fun e _ _ _=> e=.exit 2) (C 4 Zi2 (S 140 f [] (mkH nb g d))):=by
 subst hov
 intro k
 induction k with
 |zero=>
  intro i f nb g d hk hi hI hnb f116 f117 f118
  obtain rfl:i=out.length:=by omega
  have e2:ZmK .lss .i64 (out.length:Int) .i64 (out.length:Int)=some (.bool false):=by rw[ltN];simp
  rw[Zuf]
  simp(disch:=first|assumption|decide|omega)[f117,f118,e2]
  exact ZhY.mk rfl
 |succ k ih=>
  intro i f nb g d hk hi hI hnb f116 f117 f118
  have hil:i < out.length:=by omega
  have hg:out[i]?=some out[i]:=List.getElem?_eq_getElem hil
  generalize out[i]=q at hg
  have hqm:q∈out:=List.mem_of_getElem? hg
  have hql:=hF.lt q hqm
  rw[Qe] at hql
  have hql':q≤lm.length:=by omega
  have h1:=Zp hg
  have e1:=add1 (a:=i) (by omega)
  have e2:ZmK .lss .i64 (i:Int) .i64 (out.length:Int)=some (.bool true):=by rw[ltN];simp[hil]
  have hl:=hI.hl
  have hbq:bl[q]?=some true:=by rw[hind q (by omega),decide_eq_true hqm]
  have hback:=ZCb hbq
  have hno:¬ZDa m (toK la) (toK lm) (ZDm (bl.set q false)) a b:=fun hi'=> hF.irr q hqm (hi'.mono fun j hj hu=> by
   rw[Qe] at hj
   rw[ZCe (by omega),hind.used (by omega)] at hu
   exact hu)
  have sp1:splice (bools bl) [.bool false] q=some (bools (bl.set q false)):=by rw[zaV (by rw[zwF];omega),zPD]
  have sp2':splice (bools (bl.set q false)) [.bool true] q=some (bools bl):=by rw[zaV (by rw[zwF,List.length_set];omega),zPD,hback]
  have hl1:(bl.set q false).length=lm.length:=by rw[List.length_set];exact hl
  generalize bl.set q false=bl1 at *
  rw[Zuf]
  simp(disch:=first|assumption|decide|omega)[f117,f118,e2]
  rw[Znp]
  refine ZhY.seq (P:=fun f' nb' g'=> nb'≤100+32 * (i+1)∧LX m a b u lm.length av mv (.vs (ints out) out.length 1 o) bl f' nb' g'∧f' 116=.vs (ints out) out.length 1 o∧f' 117=nv out.length∧f' 118=nv (i+1)) ?_ ?_
  ·refine ZhY.seq (P:=fun f' nb' g'=> nb'≤100+32 * (i+1)∧LX m a b u lm.length av mv (.vs (ints out) out.length 1 o) bl f' nb' g'∧f' 116=.vs (ints out) out.length 1 o∧f' 117=nv out.length∧f' 118=nv i) ?_ ?_
   ·rw[Znr]
    refine ZhY.block (Q:=fun e f' nb' g'=> e=.normal∧nb'≤100+32 * (i+1)∧LX m a b u lm.length av mv (.vs (ints out) out.length 1 o) bl f' nb' g'∧f' 116=.vs (ints out) out.length 1 o∧f' 117=nv out.length∧f' 118=nv i) ?_ (fun f' nb' g' h=> by cases h.1) fun e f' nb' g' _ h=> h
    rw[Znt]
    refine ZhY.seq (P:=fun f' nb' g'=> nb'=nb∧LX m a b u lm.length av mv (.vs (ints out) out.length 1 o) bl f' nb' g'∧f' 116=.vs (ints out) out.length 1 o∧f' 117=nv out.length∧f' 118=nv i∧f' 17=nv q) ?_ ?_
    ·simp(disch:=first|assumption|decide|omega)[f116,f118,h1]
     refine ZhY.mk ?_
     exact⟨rfl,rfl,hI.keep (by simp) (Nat.le_refl _) rfl hI.gu hI.hl,by simp[f116],by simp[f117],by simp[f118],by simp⟩
    clear hI f116 f117 f118
    rintro f nb1 g d ⟨rfl,hI,f116,f117,f118,f17⟩
    rw[Znu]
    refine ZhY.seq (P:=fun f' nb' g'=> nb'=nb1∧LX m a b u lm.length av mv (.vs (ints out) out.length 1 o) bl1 f' nb' g'∧f' 116=.vs (ints out) out.length 1 o∧f' 117=nv out.length∧f' 118=nv i∧f' 17=nv q) ?_ ?_
    ·have f13:=hI.f13
     have gu:=hI.gu
     have un:=hI.un
     have u0:=hI.u0
     have n0:¬0=u:=by omega
     rw[Znv]
     simp(disch:=first|assumption|decide|omega)[f13,f17,gu,sp1,zwF,hl,hql']
     refine ZhY.mk ?_
     exact⟨rfl,rfl,hI.keep (by simp) (Nat.le_refl _) (by simp[n0]) (by simp) hl1,by simp[f116],by simp[f117],by simp[f118],by simp[f17]⟩
    clear hI f116 f117 f118 f17
    rintro f nb2 g d ⟨rfl,hI,f116,f117,f118,f17⟩
    rw[Znw]
    refine ZhY.seq (P:=fun f' nb' g'=> nb'≤100+32 * (i+1)∧LX m a b u lm.length av mv (.vs (ints out) out.length 1 o) bl1 f' nb' g'∧f' 116=.vs (ints out) out.length 1 o∧f' 117=nv out.length∧f' 118=nv i∧f' 17=nv q) ?_ ?_
    ·have un:=hI.un
     have u0:=hI.u0
     obtain⟨ok,hok,v,nb',g',d',hc,rfl,p1,p2,p3⟩:=ZnC (ex:=true) (r:=u) (d:=d) hm hA hM hLa hLm hchk ha hb hI.hl (by omega) hI.un hI.gu
     rw[hI.hl] at hc
     have hokf:ok=false:=by
      cases ok with
      |false=> rfl
      |true=> exact absurd (hok.1 rfl) hno
     subst hokf
     have f1:=hI.f1
     have f2:=hI.f2
     have f3:=hI.f3
     have f13:=hI.f13
     have g0:=hI.g0
     have hn0:0 < nb2:=by omega
     rw[Znx]
     simp(disch:=first|assumption|decide|omega)[Znz,ZnA,f1,f2,f3,f13,g0,hc]
     refine ZhY.mk ?_
     exact⟨rfl,by omega,hI.keep (by simp) p1 (p3 0 hn0) (by rw[p3 u un];exact hI.gu) hI.hl,by simp[f116],by simp[f117],by simp[f118],by simp[f17]⟩
    clear hI f116 f117 f118 f17
    rintro f nb3 g d ⟨hnb3,hI,f116,f117,f118,f17⟩
    have f13:=hI.f13
    have gu:=hI.gu
    have un:=hI.un
    have u0:=hI.u0
    have n0:¬0=u:=by omega
    rw[Zny]
    simp(disch:=first|assumption|decide|omega)[f13,f17,gu,sp2',zwF,hl1,hql']
    refine ZhY.mk ?_
    exact⟨rfl,hnb3,hI.keep (by simp) (Nat.le_refl _) (by simp[n0]) (by simp) hl,by simp[f116],by simp[f117],by simp[f118]⟩
   ·clear hI f116 f117 f118
    rintro f nb3 g d ⟨hnb3,hI,f116,f117,f118⟩
    rw[Zns]
    simp(disch:=first|assumption|decide|omega)[f118,e1]
    refine ZhY.mk ?_
    exact⟨rfl,hnb3,hI.keep (by simp) (Nat.le_refl _) rfl hI.gu hI.hl,by simp[f116],by simp[f117],by simp⟩
  ·clear hI f116 f117 f118
   rintro f nb3 g d ⟨hnb3,hI,f116,f117,f118⟩
   exact ih (i+1) f nb3 g d (by omega) hil hI hnb3 f116 f117 f118
end
section
attribute [local simp] ld3 ld4 ZCB ZCG ZCN ZCP ZCK ZCH ZEs ZEr JR JS sz3 sz4 ZCx ZCz sp2 JO zK zL JY JX aa1
attribute [-simp] zo zr zq zz zA zB zO max2 Zm2 Zl4 Zna ZlR ZlS ZlP ZlU ZlW ZlY ZiZ Zm3 Zm5 Zm6 Zm7 Zm9 Znj Znk Znl Znm Zno Zm4
theorem ZJo (x:Bool):ZmJ Tryz.prog .neq 4 false false (.bool x) (.bool x)=some (.bool false):=by cases x <;> kernel_rfl
theorem ZCh {t a b:Int} {av mv:V} (pa:V.pure (V.shut av)=true) (pm:V.pure (V.shut mv)=true):V.pures [.int .i64 t,V.shut av,V.shut mv,.int .i64 a,.int .i64 b]=true:=by
 show(V.pure (.int .i64 t) && (V.pure (V.shut av) && (V.pure (V.shut mv) && (V.pure (.int .i64 a) && (V.pure (.int .i64 b) && true)))))=true
 rw[pa,pm];rfl
theorem ZGx (n:Nat) (g:Nat→Blk) (d:List Nat):ZCi Tryz.prog hs ks 8 [] (mkH n g d)=some [(.ret (.bool true),mkH n g d)]:=zkF _
set_option maxHeartbeats 8000000 in
theorem ZAL {m a b:Nat} {la lm:List PrI} {av mv ov:V} {out:List Nat} (hm:m≤16) (hA:InS av la) (hM:InS mv lm) (hLa:la.length≤16) (hLm:lm.length≤16) (hchk:ZCt m la lm=0) (ha:a < m+la.length) (hb:b < m+la.length) (hov:SlV ov out) (hF:Found m a b (toK la) (toK lm) out) {f:Nat→V} {nb:Nat} {g:Nat→Blk} {d:List Nat} (hnb0:0 < nb) (hnb:nb < 50) (f1:f 1=nv a) (f2:f 2=nv b) (f3:f 3=.ptr 0 0) (f7:f 7=ov) (g0:g 0=.row 0 [nv m,av,mv]):
 ZhY 140 (fun e f' _ _=> e=.ret∧f' 6=.bool true) (C 4 Zi0 (S 140 f [] (mkH nb g d))):=by
 have hMl:=ZC4 hM
 have hlo:=ZDF hov
 have hol:out.length≤16:=by
  have:=zCA (n:=lm.length) (hF.srt.imp (fun h=> Nat.ne_of_lt h)) (fun k hk=> by have:=hF.lt k hk;rw[Qe] at this;exact this)
  omega
 rw[Zm3]
 have hmk (nid:Nat):=mk4 (n:=lm.length) (nid:=nid) (by omega)
 refine ZhY.seq (P:=fun f' nb' g'=> nb'=nb+1∧LX m a b nb lm.length av mv ov (List.replicate lm.length false) f' nb' g') ?_ ?_
 ·have n0:¬0=nb:=by omega
  rw[Zm4]
  simp(disch:=first|assumption|decide|omega)[f3,g0,hMl,hmk]
  refine ZhY.mk ?_
  refine⟨rfl,rfl,⟨by simp[f1],by simp[f2],by simp[f3],by simp[f7],by simp,hnb0,by omega,?_,by simp,List.length_replicate⟩⟩
  simp(disch:=first|assumption|decide|omega)[g0]
 clear f1 f2 f3 f7 g0
 rintro f nb1 g d ⟨rfl,hI⟩
 rw[Zm5]
 refine ZhY.seq (P:=fun f' nb' g'=> nb'=nb+1∧∃bl,Ind out bl∧LX m a b nb lm.length av mv ov bl f' nb' g') ?_ ?_
 ·have f7:=hI.f7
  have hind0:Ind [] (List.replicate lm.length false):=fun j hj=> by
   rw[List.length_replicate] at hj
   rw[List.getElem?_replicate,if_pos hj];simp
  rw[Zm6]
  simp(disch:=first|assumption|decide|omega)[f7,hlo]
  rw[Zm9]
  refine ZhY.block (Q:=fun e f' nb' g'=> e=.exit 0∧nb'=nb+1∧∃bl,Ind out bl∧LX m a b nb lm.length av mv ov bl f' nb' g') ?_ ?_ ?_
  ·by_cases hz:out=[]
   ·subst hz
    have e2:ZmK .lss .i64 0 .i64 0=some (.bool false):=rfl
    rw[Zua]
    simp(disch:=first|assumption|decide|omega)[e2]
    refine ZhY.mk ?_
    exact⟨rfl,rfl,_,hind0,hI.keep (by simp) (Nat.le_refl _) rfl hI.gu hI.hl⟩
   ·obtain⟨o,ho⟩:∃o,ov=.vs (ints out) out.length 1 o:=by
     rcases hov with ⟨_,h⟩|h
     ·exact absurd h hz
     ·exact h
    refine ZAM ho (by omega) (by omega) hF.srt (fun k hk=> by have:=hF.lt k hk;rw[Qe] at this;exact this) out.length 0 (List.replicate lm.length false) _ _ _ _ rfl (Nat.zero_le _) hind0 (hI.keep (by simp) (Nat.le_refl _) rfl hI.gu hI.hl) ?_ ?_ ?_
    ·simp
    ·simp
    ·simp
  ·rintro f' nb' g' ⟨_,h⟩;exact⟨rfl,h⟩
  ·rintro e f' nb' g' hne ⟨rfl,_⟩;exact absurd rfl hne
 clear hI
 rintro f nb1 g d ⟨rfl,bl,hind,hI⟩
 rw[Zm7]
 have hyes:ZDa m (toK la) (toK lm) (ZDm bl) a b:=hF.imp.mono fun j hj hu=> by
  rw[Qe] at hj
  rw[hind.used (by rw[hI.hl];exact hj)];exact hu
 refine ZhY.seq (P:=fun f' nb' g'=> nb'≤100∧LX m a b nb lm.length av mv ov bl f' nb' g') ?_ ?_
 ·obtain⟨ok,hok,v,nb',g',d',hc,rfl,p1,p2,p3⟩:=ZnC (ex:=true) (r:=nb) (d:=d) hm hA hM hLa hLm hchk ha hb hI.hl (by omega) hI.un hI.gu
  rw[hI.hl] at hc
  obtain rfl:ok=true:=hok.2 hyes
  have f1:=hI.f1
  have f2:=hI.f2
  have f3:=hI.f3
  have f13:=hI.f13
  have g0:=hI.g0
  have un:=hI.un
  rw[Znj]
  simp(disch:=first|assumption|decide|omega)[f1,f2,f3,f13,g0,hc]
  refine ZhY.mk ?_
  exact⟨rfl,by omega,hI.keep (by simp) p1 (p3 0 (by omega)) (by rw[p3 nb un];exact hI.gu) hI.hl⟩
 clear hI
 rintro f nb2 g d ⟨hnb2,hI⟩
 rw[Znk]
 refine ZhY.seq (P:=fun _ _ _=> True) ?_ ?_
 ·have f7:=hI.f7
  rw[Znl]
  simp(disch:=first|assumption|decide|omega)[f7,hlo]
  rw[Zno]
  refine ZhY.block (Q:=fun e _ _ _=> e=.exit 2) ?_ (fun _ _ _ _=> rfl) fun e _ _ _ hne h=> absurd h hne
  by_cases hz:out=[]
  ·subst hz
   have e2:ZmK .lss .i64 0 .i64 0=some (.bool false):=rfl
   rw[Zuf]
   simp(disch:=first|assumption|decide|omega)[e2]
   exact ZhY.mk rfl
  ·obtain⟨o,ho⟩:∃o,ov=.vs (ints out) out.length 1 o:=by
    rcases hov with ⟨_,h⟩|h
    ·exact absurd h hz
    ·exact h
   refine ZAN hm hA hM hLa hLm hchk ha hb ho hol hF hind out.length 0 _ _ _ _ rfl (Nat.zero_le _) (hI.keep (by simp) (Nat.le_refl _) rfl hI.gu hI.hl) (by omega) ?_ ?_ ?_
   ·simp
   ·simp
   ·simp
 clear hI
 rintro f nb3 g d _
 rw[Znm]
 simp(disch:=first|assumption|decide|omega)[ZGx]
 refine ZhY.mk ?_
 exact⟨rfl,by simp⟩
set_option maxHeartbeats 8000000 in
theorem ZJF {t a b:Int} {la lm:List PrI} {av mv:V} (hA:InS av la) (hM:InS mv lm):ZCm (fun v _ _=> v=.bool true) ((EV Tryz.prog hs ks).call 4 [.agg [.int .i64 t,av,mv],.int .i64 a,.int .i64 b] (mkH 0 (fun _=> .gone) [])):=by
 have hfew:=zQB (t:=t) hA hM
 rw[ZBT _ (by simp),ZHA]
 refine ZhY.rets (n:=140) (Q:=fun e f' _ _=> e=.ret∧f' 6=.bool true) ?_ ?_
 ·refine ZhY.seq (P:=fun f' nb' g'=> f' 1=.int .i64 a∧f' 2=.int .i64 b∧f' 3=.ptr 0 0∧nb'=1∧g' 0=.row 0 [.int .i64 t,av,mv]) ?_ ?_
  ·simp(disch:=first|assumption|decide|omega)
   refine ZhY.mk ?_
   exact⟨rfl,by simp,by simp,by simp,rfl,by simp⟩
  rintro f nb g d ⟨f1,f2,f3,rfl,g0⟩
  rw[Zm2]
  cases hb:ZEU t la lm with
  |false=>
   rw[hb] at hfew
   simp(disch:=first|assumption|decide|omega)[Zl4,f3,g0,hfew,ZGx]
   refine ZhY.mk ?_
   exact⟨rfl,by simp⟩
  |true=>
   rw[hb] at hfew
   have hbs:t≤16∧la.length≤16∧lm.length≤16:=by
    unfold ZEU at hb
    simp only[Bool.and_eq_true,decide_eq_true_eq] at hb
    omega
   obtain⟨ht,hLa,hLm⟩:=hbs
   refine ZhY.seq (P:=fun f' nb' g'=> f' 1=.int .i64 a∧f' 2=.int .i64 b∧f' 3=.ptr 0 0∧nb'=1∧g' 0=.row 0 [.int .i64 t,av,mv]) ?_ ?_
   ·simp(disch:=first|assumption|decide|omega)[Zl4,f3,g0,hfew]
    refine ZhY.mk ?_
    exact⟨rfl,by simp[f1],by simp[f2],by simp[f3],rfl,g0⟩
   clear f1 f2 f3 g0
   rintro f nb g d ⟨f1,f2,f3,rfl,g0⟩
   rw[Zna]
   obtain⟨hA',pa⟩:=hA.shut
   obtain⟨hM',pm⟩:=hM.shut
   have hpu:=ZCh (t:=t) (a:=a) (b:=b) pa pm
   have hsl:V.seals [.int .i64 t,av,mv,.int .i64 a,.int .i64 b]=[.int .i64 t,V.shut av,V.shut mv,.int .i64 a,.int .i64 b]:=rfl
   have h0:∀get nid,ZmL Tryz.prog false get nid .len [27] [.nils]=some {v:=nv 0}:=ZDF (l:=[]) (.inl ⟨rfl,rfl⟩)
   have eq0:ZmK .eql .i64 0 .i64 0=some (.bool true):=rfl
   by_cases he:ZCt t la lm=2∨ZCt t la lm=0∧inR a b (t+la.length)=false
   ·obtain⟨_,_,_,_,hc,rfl⟩:=ZAU ht hA' hM' hLa hLm he
    obtain⟨_,_,_,_,hc',rfl⟩:=ZB6 ht hA' hM' hLa hLm he
    have k12:=fun h=> QV (hint:=Cg.hs) (known:=ks) hsl hpu (QT (by decide)) rfl hc (fun n=> rfl) h
    have k13:=fun h=> QV (hint:=Cg.hs) (known:=ks) hsl hpu (QT (by decide)) rfl hc' (fun n=> rfl) h
    have e1:ZmK .neq .i64 2 .i64 2=some (.bool false):=rfl
    simp(disch:=first|assumption|decide|omega)[ZlP,ZlR,ZlS,ZlU,ZlW,ZlY,ZiZ,f1,f2,f3,g0,k12,k13,e1,ZJo,h0,eq0,ZGx]
    refine ZhY.mk ?_
    exact⟨rfl,by simp⟩
   ·have hchk:ZCt t la lm=0:=by
     rcases zDC t la lm with h|h
     ·exact h
     ·exact absurd (.inl h) he
    have hin:inR a b (t+la.length)=true:=by
     cases hx:inR a b (t+la.length) with
     |true=> rfl
     |false=> exact absurd (.inr ⟨hchk,hx⟩) he
    obtain⟨ht0,_,_⟩:=zDD hchk
    obtain⟨m,rfl⟩:∃m:Nat,t=m:=⟨t.toNat,by omega⟩
    obtain⟨b1,b2,b3,b4⟩:=zjp hin
    obtain⟨x,rfl⟩:∃x:Nat,a=x:=⟨a.toNat,by have b1:0≤a:=b1;omega⟩
    obtain⟨y,rfl⟩:∃y:Nat,b=y:=⟨b.toNat,by have b2:0≤b:=b2;omega⟩
    have hx:x < m+la.length:=by have b3:(x:Int) < (m:Int)+la.length:=b3;omega
    have hy:y < m+la.length:=by have b4:(y:Int) < (m:Int)+la.length:=b4;omega
    have hm:m≤16:=by omega
    obtain⟨_,_,_,_,hc,ov,ok,rfl,q1,q2⟩:=ZAV hm hA' hM' hLa hLm hchk hx hy
    obtain⟨_,_,_,_,hc',rov,rok,rout,rfl,r1,r2⟩:=ZB7 hm hA' hM' hLa hLm hchk hx hy
    have e1:ZmK .neq .i64 0 .i64 0=some (.bool false):=rfl
    have hokr:ok=rok:=by
     cases ok with
     |false=>
      cases rok with
      |false=> rfl
      |true=> exact absurd (r1.1 rfl) (q1 rfl).2
     |true=>
      obtain⟨_,_,_,hi⟩:=q2 rfl
      exact(r1.2 hi).symm
    subst hokr
    obtain⟨out,hsl1⟩:∃out,SlR _ 0 _ ov out∧(ok=true→Found m x y (toK la) (toK lm) out)∧(ok=false→out=[]):=by
     cases ok with
     |false=> exact⟨[],.inl ⟨(q1 rfl).1,rfl⟩,fun h=> (by cases h),fun _=> rfl⟩
     |true=>
      obtain⟨out,hF,hs,_⟩:=q2 rfl
      exact⟨out,hs,fun _=> hF,fun h=> by cases h⟩
    obtain⟨hs1,hF,hnil⟩:=hsl1
    obtain⟨ov1,nb1,g1,hv1,⟨c1,c2⟩,k12,n1,n2,fr1⟩:=ZAB hsl hpu (QT (by decide)) rfl hc hs1 1 g d
    have g10:g1 0=.row 0 [nv m,av,mv]:=by rw[fr1 0 (by omega)];exact g0
    have hl1:=ZDF hv1
    refine ZhY.seq (P:=fun f' nb' g'=> nb'=nb1∧g'=g1∧f' 1=nv x∧f' 2=nv y∧f' 3=.ptr 0 0∧f' 7=ov1∧f' 8=.bool ok∧f' 9=.int .i64 0) ?_ ?_
    ·rw[ZlP]
     simp(disch:=first|assumption|decide|omega)[f1,f2,f3,g0,k12]
     refine ZhY.mk ?_
     exact⟨rfl,rfl,rfl,by simp[f1],by simp[f2],by simp[f3],by simp,by simp,by simp⟩
    clear f1 f2 f3
    rintro f nb3 g3 d ⟨hb3,hg3,f1,f2,f3,f7,f8,f9⟩
    have hb3:=hb3.symm
    have hg3:=hg3.symm
    subst hb3 hg3
    obtain⟨ov2,nb2,g2,hv2,⟨c3,c4⟩,k13,n3,n4,fr2⟩:=ZAB hsl hpu (QT (by decide)) rfl hc' r2 nb1 g1 d
    have g20:g2 0=.row 0 [nv m,av,mv]:=by rw[fr2 0 (by omega)];exact g10
    have hp1:0 < nb1:=by omega
    rw[ZlR]
    refine ZhY.seq (P:=fun f' nb' g'=> nb'=nb2∧g'=g2∧f' 1=nv x∧f' 2=nv y∧f' 3=.ptr 0 0∧f' 7=ov1∧f' 8=.bool ok∧f' 9=.int .i64 0∧f' 11=.bool ok∧f' 12=.int .i64 0) ?_ ?_
    ·rw[ZlS]
     simp(disch:=first|assumption|decide|omega)[f1,f2,f3,g10,k13]
     refine ZhY.mk ?_
     exact⟨rfl,rfl,rfl,by simp[f1],by simp[f2],by simp[f3],by simp[f7],by simp[f8],by simp[f9],by simp,by simp⟩
    clear f1 f2 f3 f7 f8 f9
    rintro f nb3 g3 d ⟨hb3,hg3,f1,f2,f3,f7,f8,f9,f11,f12⟩
    have hb3:=hb3.symm
    have hg3:=hg3.symm
    subst hb3 hg3
    rw[ZlU]
    refine ZhY.seq (P:=fun f' nb' g'=> nb'=nb2∧g'=g2∧f' 1=nv x∧f' 2=nv y∧f' 3=.ptr 0 0∧f' 7=ov1∧f' 8=.bool ok) ?_ ?_
    ·rw[ZlW]
     simp(disch:=first|assumption|decide|omega)[f8,f9,f11,f12,e1,ZJo]
     refine ZhY.mk ?_
     exact⟨rfl,rfl,rfl,by simp[f1],by simp[f2],by simp[f3],by simp[f7],by simp[f8]⟩
    clear f1 f2 f3 f7 f8 f9 f11 f12
    rintro f nb3 g3 d ⟨hb3,hg3,f1,f2,f3,f7,f8⟩
    have hb3:=hb3.symm
    have hg3:=hg3.symm
    subst hb3 hg3
    rw[ZlY]
    cases ok with
    |false=>
     rw[hnil rfl] at hl1
     simp(disch:=first|assumption|decide|omega)[ZiZ,f7,f8,hl1,eq0,ZGx]
     refine ZhY.mk ?_
     exact⟨rfl,by simp⟩
    |true=>
     refine ZhY.seq (P:=fun f' nb' g'=> nb'=nb2∧g'=g2∧f' 1=nv x∧f' 2=nv y∧f' 3=.ptr 0 0∧f' 7=ov1) ?_ ?_
     ·simp(disch:=first|assumption|decide|omega)[ZiZ,f8]
      refine ZhY.mk ?_
      exact⟨rfl,rfl,rfl,by simp[f1],by simp[f2],by simp[f3],by simp[f7]⟩
     clear f1 f2 f3 f7 f8
     rintro f nb3 g3 d ⟨hb3,hg3,f1,f2,f3,f7⟩
     have hb3:=hb3.symm
     have hg3:=hg3.symm
     subst hb3 hg3
     exact ZAL hm hA hM hLa hLm hchk hx hy hv1 (hF rfl) (by omega) (by omega) f1 f2 f3 f7 g20
 ·rintro e f' nb' g' d' ⟨rfl,h2⟩
  rw[Zuk]
  simp(disch:=first|assumption|decide|omega)[h2]
  exact ZCm.mk rfl
end
end
end Go.Proofs.YtdlaladdeelegaaGreat.Cg
end
