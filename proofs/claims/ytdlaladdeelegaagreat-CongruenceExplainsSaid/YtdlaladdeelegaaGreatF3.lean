/- The closure, walked: check and Close. -/
import Derived.Test.YtdlaladdeelegaaGreatF2
set_option linter.all false
noncomputable section
namespace Go.Proofs.YtdlaladdeelegaaGreat.Cg
section
open Go Go.Ae
attribute [local simp] ZCl ZF JC JB ZR ZS Zo ZE Jx Jw Jq Zw Zk S_h ZH Zz ZM ZK ZL zt ZO ZN Z7 Zj Jp Z8 JD JE Zt Z0 ZCD ZP ZQ zq zB zz zA zo Z5 zr zO Jy Jz JG JH Z1 Z2 Z3 Z4 ZI Zy JF ZT ZW ZB ZA ZY ZX ZZ ZnB Zi3 V.ones Je Jd Jh Jg Jf Ji Jn Jo Jm ZV Jk Jl Jj zK ZU zL JA Jt Js Ju Jr Jv Ja Jb Jc Z9 max2 cond_true cond_false List.nil_append List.cons_append zLG zLF zLk zLh zLi zLj zLl zLD zLm zLn zLv zLw zLx zLy zLz zLA zLB zLC zLo zLp zLq zLr zLs zLt zLu zLE zAu zAt zFd zFb zFc zjE zFM zGs zGJ zGF zGG zGH zGI zHb zHl zHp zHn zHo zFe zHm zFf zFl zFh zFi zFj zFk zFm zFn zFv zFo zFp zFq zFr zFs zFt zFu zFw zFC zFx zFy zFz zFA zFB zFg zFD zFX zFG zFE zFF zlo zlq zFL zFH zFI zFJ zFK zlu zFO zFR zFP zFQ zFS zFT zFU zFV zjG zFW zF2 zGa zF3 zF4 zF5 zF6 zF7 zF8 zF9 zGb zGk zGc zGd zGe zGf zGg zGh zGi zGj zGl zGm zGq zGo zGp zGr zGn zF1 zFY zFZ zF0 zls zlF zGx zGt zGu zGv zGw zlI zGz zGC zGA zGB zGD zGE zGK zGL zjI zGM zGR zGX zGS zGT zGU zGV zGW zGY zG8 zGZ zG0 zG1 zG2 zG3 zG4 zG5 zG6 zG7 zG9 zHa zHf zHd zHe zHg zHc zGQ zGN zGO zGP zlH zHj zHh zHi zHk
section
attribute [local simp] ld3 ZC2 ZCB ZCG ZCK ZCH JR JS sz3 ZCR ZCx ZCz sp2 sp3 JO
attribute [-simp] zK zL zjG zjI zlo zls zlu zlI zlq zlF zlH zjE
theorem min2 {get:Nat→Blk} {nid:Nat} {ts:List TypeId} {k k':IntKind} {a b:Int}:ZmL Tryz.prog false get nid .min ts [.int k a,.int k' b]=some {v:=.int k (if b < a then b else a)}:=by
 show val (ZDG false (.int k a) [.int k' b])=_
 simp[ZDG,ZCD]
attribute [local simp] min2
theorem _root_.Go.Ae.ZCv.ends {n:Nat} {nb:Nat} {g:Nat→Blk} {d:List Nat} {Q:Ex→(Nat→V)→Prop} {Q':Ex→(Nat→V)→Nat→(Nat→Blk)→Prop} {x:Option (List (Ex×St))} (h:ZCv n (mkH nb g d) Q x) (hq:∀e f,Q e f→Q' e f nb g):ZhY n Q' x:=by
 obtain⟨e,f,rfl,h⟩:=h
 exact⟨e,f,nb,g,d,rfl,hq e f h⟩
theorem QT {f:FuncId} {args:List V} (hf:f≠8):ks.call f args=none:=if_neg fun h=> hf h.1
def ZDq (a:Nat) (l:List Nat):Nat:=l.foldl (fun x y=> if y < x then y else x) a
end
section
attribute [local simp] ld3 ZC2 ZCB ZCG ZCK ZCH JR JS sz3 ZCR ZCx ZCz sp2 sp3 JO min2 zK zL
attribute [-simp] zjG zjI zlo zls zlu zlI zlq zlF zlH zjE
abbrev PrI:=Int×Int
def ZC1 (l:List PrI):List V:=l.flatMap fun p=> [.int .i64 p.1,.int .i64 p.2]
theorem zyo:∀{l:List PrI} {i:Nat} {p:PrI},l[i]?=some p→(ZC1 l).drop (i * 2)=.int .i64 p.1::.int .i64 p.2::ZC1 (l.drop (i+1))
 |[],i,p,h=> by simp at h
 |a::l,0,p,h=> by simp at h;subst h;rfl
 |a::l,i+1,p,h=> by
  simp only[List.getElem?_cons_succ] at h
  have e:(ZC1 (a::l)).drop ((i+1) * 2)=(ZC1 l).drop (i * 2):=by
   show(V.int .i64 a.1::.int .i64 a.2::ZC1 l).drop ((i+1) * 2)=_
   rw[show(i+1) * 2=i * 2+1+1 by omega]
   simp only[List.drop_succ_cons]
  rw[e,zyo h];rfl
theorem zyp {l:List PrI} {i:Nat} {p:PrI} (h:l[i]?=some p):ZCC Tryz.prog 42 ((ZC1 l).drop (i * 2))=some (.agg [.int .i64 p.1,.int .i64 p.2]):=by
 rw[ZCB,zyo h,if_pos (by simp)];rfl
def InS (v:V) (l:List PrI):Prop:=(v=.nils∧l=[])∨(v=.ze∧l=[])∨∃o,v=.vs (ZC1 l) l.length 2 o
theorem InS.vs {v:V} {l:List PrI} (h:InS v l) (hl:l≠[]):∃o,v=.vs (ZC1 l) l.length 2 o:=by
 rcases h with ⟨_,h⟩|⟨_,h⟩|h
 ·exact absurd h hl
 ·exact absurd h hl
 ·exact h
theorem ZC4 {v:V} {l:List PrI} (h:InS v l) (get:Nat→Blk) (nid:Nat):ZmL Tryz.prog false get nid .len [22] [v]=some {v:=nv l.length}:=by
 rcases h with ⟨rfl,rfl⟩|⟨rfl,rfl⟩|⟨o,rfl⟩ <;> simp[ZmL,ZDQ,ZF7]
def wit (p:PrI) (n:Int):Bool:=decide (0≤min p.1 p.2) && decide (max p.1 p.2 < n)
theorem zO8 (p:PrI) (n:Int) (h:H):ZCi Tryz.prog hs ks 47 [.agg [.int .i64 p.1,.int .i64 p.2],.int .i64 n] h=some [(.ret (.bool (wit p n)),h)]:=by
 have key:ZCm (fun v _ _=> v=.bool (wit p n)) ((EV Tryz.prog hs ks).call 47 [.agg [.int .i64 p.1,.int .i64 p.2],.int .i64 n] (mkH 0 (fun _=> .gone) [])):=by
  rw[zSx _ (by simp)]
  have e1:(if p.2 < p.1 then p.2 else p.1)=min p.1 p.2:=by rw[Int.min_def];split <;> split <;> omega
  have e2:(if p.1 < p.2 then p.2 else p.1)=max p.1 p.2:=by rw[Int.max_def];split <;> split <;> omega
  by_cases h1:0≤min p.1 p.2
  ·simp(disch:=first|assumption|decide|omega)[e1,e2,h1]
   refine ZCm.mk ?_
   simp[wit,h1]
  ·simp(disch:=first|assumption|decide|omega)[e1,e2,h1]
   refine ZCm.mk ?_
   simp[wit,h1]
 obtain⟨v,nb',g',d',hc,rfl⟩:=key
 exact QV (args':=[.agg [.int .i64 p.1,.int .i64 p.2],.int .i64 n]) rfl rfl (QT (by decide)) rfl hc (fun n=> rfl) h
def ZDk (t:Int):List PrI→Nat→Bool
 |[],_=> true
 |p::l,i=> wit p (t+i) && ZDk t l (i+1)
def ZDv (n:Int) (l:List PrI):Bool:=l.all fun p=> wit p n
set_option maxHeartbeats 1000000 in
theorem zPS {t:Int} (ht0:0≤t) (ht:t≤16) {l:List PrI} {av:V} (hA:InS av l) (hL:l.length≤16):∀(k i:Nat) (f:Nat→V) (nb:Nat) (g:Nat→Blk) (d:List Nat),l.length - i=k→i≤l.length→f 0=.int .i64 t→f 7=.fn (.func 47) [] []→f 26=av→f 27=nv l.length→f 28=nv i→
 ZhY 56 (fun e f' _ _=> (ZDk t (l.drop i) i=true∧e=.exit 1∧∀t,t < 8→f' t=f t)∨(ZDk t (l.drop i) i=false∧e=.ret∧f' 6=.int .i64 2)) (C 21 zjF (S 56 f [] (mkH nb g d))):=by
 intro k
 induction k with
 |zero=>
  intro i f nb g d hk hi f0 f7 f26 f27 f28
  obtain rfl:i=l.length:=by omega
  rw[zFN]
  simp(disch:=first|assumption|decide|omega)[f27,f28,ltN]
  refine ZhY.mk ?_
  refine .inl ⟨rfl,rfl,fun t ht=> ?_⟩
  simp only[zt];repeat (rw[if_neg (by omega)])
 |succ k ih=>
  intro i f nb g d hk hi f0 f7 f26 f27 f28
  have hil:i < l.length:=by omega
  have hg:l[i]?=some l[i]:=List.getElem?_eq_getElem hil
  have hd:=List.drop_eq_getElem_cons hil
  generalize l[i]=p at hg hd
  obtain⟨o,rfl⟩:=hA.vs (fun hh=> by rw[hh] at hil;cases hil)
  have h4:=zyp hg
  have hadd:ZmK .add .i64 t .i64 (i:Int)=some (.int .i64 (t+i)):=by rw[zq,za4 (by omega) (by omega)]
  have e2:ZmK .lss .i64 (i:Int) .i64 (l.length:Int)=some (.bool true):=by rw[ltN];simp[hil]
  have hw:=zO8 p (t+i)
  have e1:=add1 (a:=i) (by omega)
  have hdd:ZDk t (l.drop i) i=(wit p (t+i) && ZDk t (l.drop (i+1)) (i+1)):=by rw[hd];rfl
  rw[zFN]
  cases hb:wit p (t+i) with
  |true=>
   rw[hb] at hw hdd
   rw[Bool.true_and] at hdd
   simp(disch:=first|assumption|decide|omega)[f0,f7,f26,f27,f28,e1,e2,h4,hadd,hw,zjG]
   refine(ih (i+1) _ _ _ _ (by omega) hil ?_ ?_ ?_ ?_ ?_).weak ?_
   ·simp[f0]
   ·simp[f7]
   ·simp[f26]
   ·simp[f27]
   ·simp
   ·rintro e f' nb' g' (⟨q1,rfl,q3⟩|⟨q1,rfl,q3⟩)
    ·refine .inl ⟨hdd.trans q1,rfl,fun t ht=> ?_⟩
     rw[q3 t ht]
     simp only[zt];repeat (rw[if_neg (by omega)])
    ·exact .inr ⟨hdd.trans q1,rfl,q3⟩
  |false=>
   rw[hb] at hw hdd
   rw[Bool.false_and] at hdd
   simp(disch:=first|assumption|decide|omega)[f0,f7,f26,f27,f28,e1,e2,h4,hadd,hw,zjG]
   refine ZhY.mk ?_
   exact .inr ⟨hdd,rfl,by simp⟩
set_option maxHeartbeats 1000000 in
theorem zPT {t:Int} (ht0:0≤t) (ht:t≤16) {l la:List PrI} {av mv:V} (hA:InS av la) (hM:InS mv l) (hL:l.length≤16) (hLa:la.length≤16):∀(k i:Nat) (f:Nat→V) (nb:Nat) (g:Nat→Blk) (d:List Nat),l.length - i=k→i≤l.length→f 0=.int .i64 t→f 1=av→f 7=.fn (.func 47) [] []→f 41=mv→f 42=nv l.length→f 43=nv i→
 ZhY 56 (fun e f' _ _=> (ZDv (t+la.length) (l.drop i)=true∧e=.exit 3)∨(ZDv (t+la.length) (l.drop i)=false∧e=.ret∧f' 6=.int .i64 2)) (C 21 zjH (S 56 f [] (mkH nb g d))):=by
 intro k
 have hlen:=ZC4 hA
 induction k with
 |zero=>
  intro i f nb g d hk hi f0 f1 f7 f41 f42 f43
  obtain rfl:i=l.length:=by omega
  rw[zGy]
  simp(disch:=first|assumption|decide|omega)[f42,f43,ltN]
  refine ZhY.mk ?_
  exact .inl ⟨by simp[ZDv],rfl⟩
 |succ k ih=>
  intro i f nb g d hk hi f0 f1 f7 f41 f42 f43
  have hil:i < l.length:=by omega
  have hg:l[i]?=some l[i]:=List.getElem?_eq_getElem hil
  have hd:=List.drop_eq_getElem_cons hil
  generalize l[i]=p at hg hd
  obtain⟨o,rfl⟩:=hM.vs (fun hh=> by rw[hh] at hil;cases hil)
  have h4:=zyp hg
  have hadd:ZmK .add .i64 t .i64 (la.length:Int)=some (.int .i64 (t+la.length)):=by rw[zq,za4 (by omega) (by omega)]
  have e2:ZmK .lss .i64 (i:Int) .i64 (l.length:Int)=some (.bool true):=by rw[ltN];simp[hil]
  have hw:=zO8 p (t+la.length)
  have e1:=add1 (a:=i) (by omega)
  have hdd:ZDv (t+la.length) (l.drop i)=(wit p (t+la.length) && ZDv (t+la.length) (l.drop (i+1))):=by rw[hd];rfl
  rw[zGy]
  cases hb:wit p (t+la.length) with
  |true=>
   rw[hb] at hw hdd
   rw[Bool.true_and] at hdd
   simp(disch:=first|assumption|decide|omega)[f0,f1,f7,f41,f42,f43,e1,e2,h4,hadd,hw,hlen,zjI]
   refine(ih (i+1) _ _ _ _ (by omega) hil ?_ ?_ ?_ ?_ ?_ ?_).weak ?_
   ·simp[f0]
   ·simp[f1]
   ·simp[f7]
   ·simp[f41]
   ·simp[f42]
   ·simp
   ·rintro e f' nb' g' (⟨q1,rfl⟩|⟨q1,rfl,q3⟩)
    ·exact .inl ⟨hdd.trans q1,rfl⟩
    ·exact .inr ⟨hdd.trans q1,rfl,q3⟩
  |false=>
   rw[hb] at hw hdd
   rw[Bool.false_and] at hdd
   simp(disch:=first|assumption|decide|omega)[f0,f1,f7,f41,f42,f43,e1,e2,h4,hadd,hw,hlen,zjI]
   refine ZhY.mk ?_
   exact .inr ⟨hdd,rfl,by simp⟩
theorem InS.shut {v:V} {l:List PrI} (h:InS v l):InS (V.shut v) l∧V.pure (V.shut v)=true:=by
 rcases h with ⟨rfl,rfl⟩|⟨rfl,rfl⟩|⟨o,rfl⟩
 ·exact⟨.inl ⟨rfl,rfl⟩,rfl⟩
 ·exact⟨.inr (.inl ⟨rfl,rfl⟩),rfl⟩
 ·cases o with
  |tight=> exact⟨.inr (.inr ⟨.tight,rfl⟩),rfl⟩
  |lock=> exact⟨.inr (.inr ⟨.lock,rfl⟩),rfl⟩
  |tok r e=> exact⟨.inr (.inr ⟨.lock,rfl⟩),rfl⟩
def ZCt (t:Int) (la lm:List PrI):Int:=if t < 0 then 2 else if ZDk t la 0=true∧ZDv (t+la.length) lm=true then 0 else 2
set_option maxHeartbeats 1000000 in
theorem zDz {t:Int} {la lm:List PrI} {av mv:V} (ht:t≤16) (htl: -1000000≤t∨t < 0) (hA:InS av la) (hM:InS mv lm) (hLa:la.length≤16) (hLm:lm.length≤16) (h:H):ZCi Tryz.prog hs ks 21 [.int .i64 t,av,mv] h=some [(.ret (.int .i64 (ZCt t la lm)),h)]:=by
 obtain⟨hA',pa⟩:=hA.shut
 obtain⟨hM',pm⟩:=hM.shut
 generalize hav:V.shut av=av' at hA' pa
 generalize hmv:V.shut mv=mv' at hM' pm
 have key:ZCm (fun v _ _=> v=.int .i64 (ZCt t la lm)) ((EV Tryz.prog hs ks).call 21 [.int .i64 t,av',mv'] (mkH 0 (fun _=> .gone) [])):=by
  have la1:=ZC4 hA'
  have lm1:=ZC4 hM'
  rw[zRm _ (by simp),zAt]
  refine ZhY.rets (n:=56) (Q:=fun e f' _ _=> e=.ret∧f' 6=.int .i64 (ZCt t la lm)) ?_ ?_
  ·by_cases h0:t < 0
   ·simp(disch:=first|assumption|decide|omega)[h0,zjE]
    refine ZhY.mk ?_
    exact⟨rfl,by simp[ZCt,h0]⟩
   ·have g1:ZmK .gtr .i64 t .i64 2000=some (.bool false):=by rw[zr];simp;omega
    have g2:ZmK .add .i64 t .i64 (la.length:Int)=some (.int .i64 (t+la.length)):=by rw[zq,za4 (by omega) (by omega)]
    have g3:ZmK .gtr .i64 (t+la.length) .i64 2000=some (.bool false):=by rw[zr];simp;omega
    have g4:ZmK .gtr .i64 (lm.length:Int) .i64 2000=some (.bool false):=by rw[zr];simp;omega
    simp(disch:=first|assumption|decide|omega)[h0,zjE,g1,g2,g3,g4,la1,lm1,zlo,zlq]
    refine ZhY.then (Q:=fun e f' _ _=> (ZDk t la 0=true∧e=.normal∧f' 0=.int .i64 t∧f' 1=av'∧f' 2=mv'∧f' 7=.fn (.func 47) [] [])∨(ZDk t la 0=false∧e=.ret∧f' 6=.int .i64 2)) ?_ ?_ ?_
    ·rw[zlu]
     refine ZhY.block (zPS (by omega) ht hA' hLa la.length 0 _ _ _ _ rfl (Nat.zero_le _) ?_ ?_ ?_ ?_ ?_) ?_ ?_
     ·simp
     ·simp
     ·simp
     ·simp
     ·simp
     ·rintro f' nb' g' (⟨q1,_,q3⟩|⟨_,q2,_⟩)
      ·exact .inl ⟨q1,rfl,by rw[q3 0 (by omega)];simp,by rw[q3 1 (by omega)];simp,by rw[q3 2 (by omega)];simp,by rw[q3 7 (by omega)];simp⟩
      ·cases q2
     ·rintro e f' nb' g' hne (⟨_,rfl,_⟩|⟨q1,rfl,q3⟩)
      ·exact absurd rfl hne
      ·exact .inr ⟨q1,rfl,q3⟩
    ·rintro f1 nb1 g1 d1 (⟨ha,_,e0,e1,e2,e7⟩|⟨_,q2,_⟩)
     ·rw[zls]
      refine ZhY.then (Q:=fun e f' _ _=> (ZDv (t+la.length) lm=true∧e=.normal)∨(ZDv (t+la.length) lm=false∧e=.ret∧f' 6=.int .i64 2)) ?_ ?_ ?_
      ·rw[zlF]
       simp(disch:=first|assumption|decide|omega)[e2,lm1]
       rw[zlI]
       refine ZhY.block (zPT (by omega) ht hA' hM' hLm hLa lm.length 0 _ _ _ _ rfl (Nat.zero_le _) ?_ ?_ ?_ ?_ ?_ ?_) ?_ ?_
       ·simp[e0]
       ·simp[e1]
       ·simp[e7]
       ·simp
       ·simp
       ·simp
       ·rintro f' nb' g' (⟨q1,_⟩|⟨_,q2,_⟩)
        ·exact .inl ⟨q1,rfl⟩
        ·cases q2
       ·rintro e f' nb' g' hne (⟨_,rfl⟩|⟨q1,rfl,q3⟩)
        ·exact absurd rfl hne
        ·exact .inr ⟨q1,rfl,q3⟩
      ·rintro f2 nb2 g2 d2 (⟨hm,_⟩|⟨_,q2,_⟩)
       ·rw[zlH]
        simp(disch:=first|assumption|decide|omega)
        refine ZhY.mk ?_
        exact⟨rfl,by simp[ZCt,h0,ha,hm]⟩
       ·cases q2
      ·rintro e f2 nb2 g2 hne (⟨_,rfl⟩|⟨q1,rfl,q3⟩)
       ·exact absurd rfl hne
       ·exact⟨rfl,by rw[q3];simp[ZCt,h0,q1]⟩
     ·cases q2
    ·rintro e f1 nb1 g1 hne (⟨_,rfl,_⟩|⟨q1,rfl,q3⟩)
     ·exact absurd rfl hne
     ·exact⟨rfl,by rw[q3];simp[ZCt,h0,q1]⟩
  ·rintro e f' nb' g' d' ⟨rfl,q⟩
   rw[zAu]
   simp(disch:=first|assumption|decide|omega)[q]
   exact ZCm.mk rfl
 obtain⟨v,nb',g',d',hc,rfl⟩:=key
 refine QV (args':=[.int .i64 t,av',mv']) ?_ ?_ (QT (by decide)) rfl hc (fun n=> rfl) h
 ·show[V.shut (.int .i64 t),V.shut av,V.shut mv]=_
  rw[hav,hmv];rfl
 ·show(V.pure (.int .i64 t) && (V.pure av' && (V.pure mv' && true)))=true
  rw[pa,pm];rfl
end
end
section
open Go Go.Ae
attribute [local simp] ZCl ZF JC JB ZR ZS Zo ZE Jx Jw Jq Zw Zk S_h ZH Zz ZM ZK ZL zt ZO ZN Z7 Zj Jp Z8 JD JE Zt Z0 ZCD ZP ZQ zq zB zz zA zo Z5 zr zO Jy Jz JG JH Z1 Z2 Z3 Z4 ZI Zy JF ZT ZW ZB ZA ZY ZX ZZ ZnB Zi3 V.ones Je Jd Jh Jg Jf Ji Jn Jo Jm ZV Jk Jl Jj zK ZU zL JA Jt Js Ju Jr Jv Ja Jb Jc Z9 max2 cond_true cond_false List.nil_append List.cons_append
section
attribute [local simp] ld3 ZC2 ZCB ZCG ZDP ZCK ZCP ZDN ZCH sz3 ZCR ZCx ZCz JO zK zL
mutual
theorem ZHJ:∀v:V,v.shift 0=v
 |.bool _|.int _ _|.str _|.nilp|.iptr _|.nils|.ze|.nilm|.nilf|.nilif=> rfl
 |.ptr r o=> by simp[V.shift]
 |.vs cs l z .tight|.vs cs l z .lock=> rfl
 |.vs cs l z (.tok r e)=> by simp[V.shift]
 |.hs r o l c z x=> by simp[V.shift]
 |.map r=> by simp[V.shift]
 |.iface t v=> by simp only[V.shift];rw[ZHJ v]
 |.agg cs=> by simp only[V.shift];rw[ZF2 cs]
 |.tup cs=> by simp only[V.shift];rw[ZF2 cs]
 |.fn f a b=> by
  simp only[V.shift]
  rw[ZF2 a,ZF2 b]
  cases f <;> simp[ZIO]
theorem ZF2:∀l:List V,V.shifts 0 l=l
 |[]=> rfl
 |v::l=> by simp only[V.shifts];rw[ZHJ v,ZF2 l]
end
theorem zkG (h:H) (n:Nat):∀(k i j:Nat),j < k→(ZDe h n k i).getD j .gone=(h.get (i+j)).shift n
 |0,i,j,hj=> by omega
 |k+1,i,0,_=> rfl
 |k+1,i,j+1,hj=> by
  show(ZDe h n k (i+1)).getD j .gone=_
  rw[zkG h n k (i+1) j (by omega)]
  congr 2;omega
theorem zb1 (h:H) (n:Nat):∀(k i:Nat),(ZDe h n k i).length=k
 |0,_=> rfl
 |k+1,i=> by show(ZDe h n k (i+1)).length+1=_;rw[zb1 h n k]
theorem zNY:∀(bs:List Blk) (n:Nat) (g:Nat→Blk) (d:List Nat),H.news (mkH n g d) bs=mkH (n+bs.length) (ZEy g n bs) d
 |[],n,g,d=> rfl
 |b::bs,n,g,d=> by
  show H.news ((mkH n g d).new b) bs=_
  rw[zNV,zNY bs]
  congr 1
  simp only[List.length_cons];omega
theorem zPL {f:FuncId} {args args':List V} {v:V} {nb1:Nat} {g1:Nat→Blk} {d1:List Nat} (hs':V.seals args=args') (hp:V.pures args'=true) (hk:ks.call f args'=none) (hh:hs.heap f=true)
 (hc:(EV Tryz.prog hs ks).call f args' H.empty=some [(.ret v,mkH nb1 g1 d1)]) (g:Nat→Blk) (d:List Nat):
 ∃g',ZCi Tryz.prog hs ks f args (mkH 0 g d)=some [(.ret v,mkH nb1 g' d)]∧∀r,r < nb1→g' r=(g1 r).shift 0:=by
 refine⟨ZEy g 0 (ZDe (mkH nb1 g1 d1) 0 nb1 0),?_,fun r hr=> ?_⟩
 ·subst hs'
  unfold ZCi
  rw[if_pos hp]
  have:ZC3 hs ks (EV Tryz.prog hs ks) f (V.seals args) (mkH 0 g d).n=some [{v:=v.shift 0,nw:=ZDe (mkH nb1 g1 d1) 0 nb1 0}]:=by
   unfold ZC3
   rw[hk]
   simp only
   rw[hc]
   simp only
   unfold ZCT
   have hl:ZE0 hs f (mkH 0 g d).n (.ret v,mkH nb1 g1 d1)=some {v:=v.shift 0,nw:=ZDe (mkH nb1 g1 d1) 0 nb1 0}:=by
    show(if hs.heap f then _ else _)=_
    rw[if_pos hh];rfl
   rw[hl];rfl
  rw[this]
  show some [(R.ret (v.shift 0),H.news (mkH 0 g d) (ZDe (mkH nb1 g1 d1) 0 nb1 0))]=_
  rw[ZHJ,zNY,zb1,Nat.zero_add]
 ·rw[zdc,zb1,if_pos ⟨Nat.zero_le _,by omega⟩,Nat.sub_zero,zkG _ _ _ _ _ hr,Nat.zero_add,Zj hr]
theorem zyw {b:Blk} {k:Nat} {cs:List V} (h:b=.row k cs):b.shift 0=.row k cs:=by
 subst h;show Blk.row k (V.shifts 0 cs)=_;rw[ZF2]
def ZFx (A:Cl):List Nat→Option (List Nat)
 |[]=> some []
 |k::l=> match A.mem[k]? with
  |some (a::q)=> if (a::q).length < 100000 then (match ZFx A l with|some r=> some (ZDq a q::r)|none=> none) else none
  |_=> none
def toK (l:List PrI):List Key:=l.map fun p=> (p.1.toNat,p.2.toNat)
theorem Qe (l:List PrI):(toK l).length=l.length:=List.length_map _
theorem zyq:∀{l:List PrI},(∀p∈l,0≤p.1∧0≤p.2)→prs (toK l)=ZC1 l
 |[],_=> rfl
 |p::l,h=> by
  have h1:=h p List.mem_cons_self
  show nv p.1.toNat::nv p.2.toNat::prs (toK l)=.int .i64 p.1::.int .i64 p.2::ZC1 l
  rw[zyq fun q hq=> h q (List.mem_cons_of_mem _ hq)]
  have e1:((p.1.toNat:Nat):Int)=p.1:=Int.toNat_of_nonneg h1.1
  have e2:((p.2.toNat:Nat):Int)=p.2:=Int.toNat_of_nonneg h1.2
  show V.int .i64 ((p.1.toNat:Nat):Int)::V.int .i64 ((p.2.toNat:Nat):Int)::_=_
  rw[e1,e2]
theorem zjp {p:PrI} {n:Int} (h:wit p n=true):0≤p.1∧0≤p.2∧p.1 < n∧p.2 < n:=by
 unfold wit at h
 rw[Bool.and_eq_true,decide_eq_true_eq,decide_eq_true_eq] at h
 omega
theorem zyJ {t:Int}:∀{l:List PrI} {i:Nat},ZDk t l i=true→∀p∈l,0≤p.1∧0≤p.2
 |[],_,_,p,hp=> by cases hp
 |q::l,i,h,p,hp=> by
  unfold ZDk at h
  rw[Bool.and_eq_true] at h
  rcases List.mem_cons.1 hp with rfl|hp
  ·have:=zjp h.1;exact⟨this.1,this.2.1⟩
  ·exact zyJ h.2 p hp
theorem zNT {n:Int} {l:List PrI} (h:ZDv n l=true):∀p∈l,0≤p.1∧0≤p.2:=fun p hp=> by
 have:=zjp (List.all_eq_true.1 h p hp);exact⟨this.1,this.2.1⟩
end
end
end Go.Proofs.YtdlaladdeelegaaGreat.Cg
end
