/- The closure, walked: check and Close. -/
import Derived.Test.YtdlaladdeelegaaGreatF2
set_option linter.all false
noncomputable section
namespace Go.Proofs.YtdlaladdeelegaaGreat.Cg
open Go Go.Ae
attribute [local simp] setF ZF JC JB ZR ZS Zo ZE Jx Jw Jq Zw Zk S_h ZH Zz ZM ZK ZL zt ZO ZN Z7 Zj Jp Z8 JD JE Zt Z0 valS ZP ZQ zq zB zz zA zo Z5 zr zO Jy Jz JG JH Z1 Z2 Z3 Z4 ZI Zy JF ZT ZW ZB ZA ZY ZX ZZ xStore xLoad V.ones Je Jd Jh Jg Jf Ji Jn Jo Jm ZV Jk Jl Jj zK ZU zL JA Jt Js Ju Jr Jv Ja Jb Jc Z9 max2 cond_true cond_false List.nil_append List.cons_append zHt zHs zRC zRA zRB zRR zSe zSk zSg zSh zSi zSj zSl zSm zSf zSs zSn zSo zSp zSq zSr zAM zRD zRH zRF zRG zAG zRI zRJ zRP zRK zRL zRM zRN zRO zRQ zRS zRT zAH zRU zR8 zR0 zR1 zR2 zR3 zR4 zR5 zR6 zR7 zRZ zRV zRW zRX zRY zRE zSc zR9 zSa zSb zSd zLG zLF zLk zLh zLi zLj zLl zLD zLm zLn zLv zLw zLx zLy zLz zLA zLB zLC zLo zLp zLq zLr zLs zLt zLu zLE zAu zAt zFd zFb zFc zjE zFM zGs zGJ zGF zGG zGH zGI zHb zHl zHp zHn zHo zFe zHm zFf zFl zFh zFi zFj zFk zFm zFn zFv zFo zFp zFq zFr zFs zFt zFu zFw zFC zFx zFy zFz zFA zFB zFg zFD zFX zFG zFE zFF zlo zlq zFL zFH zFI zFJ zFK zlu zFO zFR zFP zFQ zFS zFT zFU zFV zjG zFW zF2 zGa zF3 zF4 zF5 zF6 zF7 zF8 zF9 zGb zGk zGc zGd zGe zGf zGg zGh zGi zGj zGl zGm zGq zGo zGp zGr zGn zF1 zFY zFZ zF0 zls zlF zGx zGt zGu zGv zGw zlI zGz zGC zGA zGB zGD zGE zGK zGL zjI zGM zGR zGX zGS zGT zGU zGV zGW zGY zG8 zGZ zG0 zG1 zG2 zG3 zG4 zG5 zG6 zG7 zG9 zHa zHf zHd zHe zHg zHc zGQ zGN zGO zGP zlH zHj zHh zHi zHk
attribute [local simp] ld3 ld126 ld42 ld27 ix27v ix22v JR JS sz3 sz126 sz42 sz27 sp2 sp3 JO
attribute [-simp] zK zL zjG zjI zlo zls zlu zlI zlq zlF zlH zjE zAG zAM zAH
theorem min2 {get:Nat→Blk} {nid:Nat} {ts:List TypeId} {k k':IntKind} {a b:Int}:builtinV Tryz.prog false get nid .min ts [.int k a,.int k' b]=some { v:=.int k (if b < a then b else a) }:=by
 show val (minmax false (.int k a) [.int k' b])=_
 simp [minmax,valS]
attribute [local simp] min2
theorem _root_.Go.Ae.AeStay.ends {n:Nat} {nb:Nat} {g:Nat→Blk} {d:List Nat} {Q:Ex→(Nat→V)→Prop} {Q':Ex→(Nat→V)→Nat→(Nat→Blk)→Prop} {x:Option (List (Ex×St))} (h:AeStay n (mkH nb g d) Q x) (hq:∀e f,Q e f→Q' e f nb g):AeEnds n Q' x:=by
 obtain ⟨e,f,rfl,h⟩:=h
 exact ⟨e,f,nb,g,d,rfl,hq e f h⟩
theorem QT {f:FuncId} {args:List V} (hf:f≠8):ks.call f args=none:=if_neg fun h=> hf h.1
def lmin (a:Nat) (l:List Nat):Nat:=l.foldl (fun x y=> if y < x then y else x) a
set_option maxHeartbeats 1000000 in
theorem zXN (l:List Nat) (o:Own) (hL:l.length < 100000):∀(k i acc:Nat) (f:Nat→V) (h:H),l.length - i=k→i≤l.length→f 0=.vs (ints l) l.length 1 o→f 3=nv acc→f 4=nv i→
 AeStay 25 h (fun e f'=> e=.exit 0∧f' 3=nv (lmin acc (l.drop i))) (C 24 zjV (S 25 f [] h)):=by
 intro k
 have hlen:=len27 (v:=.vs (ints l) l.length 1 o) (l:=l) (.inr ⟨o,rfl⟩)
 induction k with
 |zero=>
  intro i acc f h hk hi f0 f3 f4
  obtain rfl:i=l.length:=by omega
  rw [zHr]
  simp (disch:=first|assumption|decide|omega) [f0,f4,hlen,ltN]
  refine AeStay.mk ⟨rfl,?_⟩
  simp [f3,lmin]
 |succ k ih=>
  intro i acc f h hk hi f0 f3 f4
  have hil:i < l.length:=by omega
  have hg:l[i]?=some l[i]:=List.getElem?_eq_getElem hil
  have h1:=Zp hg
  have hd:=List.drop_eq_getElem_cons hil
  generalize l[i]=a at hg h1 hd
  rw [zHr]
  have e1:=add1 (a:=i) (by omega)
  have e2:intOp .lss .i64 (i:Int) .i64 (l.length:Int)=some (.bool true):=by rw [ltN];simp [hil]
  simp (disch:=first|assumption|decide|omega) [f0,f3,f4,hlen,e1,e2,h1,zAH]
  have hm:V.int .i64 (if (a:Int) < (acc:Int) then (a:Int) else (acc:Int))=nv (if a < acc then a else acc):=by
   by_cases h:a < acc
   ·rw [if_pos (by omega),if_pos h]
   ·rw [if_neg (by omega),if_neg h]
  refine (ih (i+1) (if a < acc then a else acc) _ _ (by omega) hil ?_ ?_ ?_).weak ?_
  ·simp [f0]
  ·simp [←hm]
  ·simp
  ·rintro e f' ⟨rfl,q⟩
   refine ⟨rfl,?_⟩
   rw [q,hd];rfl
theorem zXM {a:Nat} {l:List Nat} {o:Own} (hL:(a::l).length < 100000) (h:H):callS Tryz.prog hs ks 24 [.vs (ints (a::l)) (a::l).length 1 o] h=some [(.ret (nv (lmin a l)),h)]:=by
 obtain ⟨o',hs',hp⟩:∃o',V.seals [V.vs (ints (a::l)) (a::l).length 1 o]=[.vs (ints (a::l)) (a::l).length 1 o']∧V.pures [V.vs (ints (a::l)) (a::l).length 1 o']=true:=by
  cases o with
  |tight=> exact ⟨.tight,rfl,rfl⟩
  |lock=> exact ⟨.lock,rfl,rfl⟩
  |tok r e=> exact ⟨.lock,rfl,rfl⟩
 have key:AeRets (fun v _ _=> v=nv (lmin a l)) ((EV Tryz.prog hs ks).call 24 [.vs (ints (a::l)) (a::l).length 1 o'] (mkH 0 (fun _=> .gone) [])):=by
  have hlen:∀get nid,builtinV Tryz.prog false get nid .len [27] [.vs (ints (a::l)) (l.length+1) 1 o']=some { v:=nv (l.length+1) }:=len27 (l:=a::l) (.inr ⟨o',rfl⟩)
  have ix:indexAddr Tryz.prog 27 (.vs (ints (a::l)) (l.length+1) 1 o') (.int .i64 0)=some (.iptr (ints (a::l))):=ix27v (n:=0) (by omega)
  have hh:(ints (a::l)).head?=some (nv a):=rfl
  have hlt:intOp .lss .i64 ((l.length:Int)+1) .i64 1=some (.bool false):=by rw [zo];simp;omega
  rw [zSt _ (by simp),zHs]
  refine AeEnds.rets (n:=25) (Q:=fun e f' _ _=> e=.ret∧f' 2=nv (lmin a l)) ?_ ?_
  ·simp (disch:=first|assumption|decide|omega) [hlen,hlt,zAM,ix,hh]
   refine AeEnds.seq (P:=fun f' _ _=> f' 3=nv (lmin a l)) ?_ ?_
   ·rw [zAG]
    refine AeEnds.block (Q:=fun e f' _ _=> e=.exit 0∧f' 3=nv (lmin a l)) ?_ (fun _ _ _ hq=> ⟨rfl,hq.2⟩) (fun _ _ _ _ hne hq=> absurd hq.1 hne)
    refine (zXN (a::l) o' hL l.length 1 a _ _ (by simp) (by simp) ?_ ?_ ?_).ends ?_
    ·simp
    ·simp
    ·simp
    ·rintro e f' ⟨rfl,q⟩;exact ⟨rfl,q⟩
   ·rintro f' nb' g' d' q
    simp (disch:=first|assumption|decide|omega) [q]
    refine AeEnds.mk ?_
    exact ⟨rfl,by simp⟩
  ·rintro e f' nb' g' d' ⟨rfl,q⟩
   rw [zHt]
   simp (disch:=first|assumption|decide|omega) [q]
   exact AeRets.mk rfl
 obtain ⟨v,nb',g',d',hc,rfl⟩:=key
 exact QV (args':=[.vs (ints (a::l)) (a::l).length 1 o']) hs' hp (QT (by decide)) rfl hc (fun n=> rfl) h
end Go.Proofs.YtdlaladdeelegaaGreat.Cg
end
noncomputable section
namespace Go.Proofs.YtdlaladdeelegaaGreat.Cg
open Go Go.Ae
attribute [local simp] setF ZF JC JB ZR ZS Zo ZE Jx Jw Jq Zw Zk S_h ZH Zz ZM ZK ZL zt ZO ZN Z7 Zj Jp Z8 JD JE Zt Z0 valS ZP ZQ zq zB zz zA zo Z5 zr zO Jy Jz JG JH Z1 Z2 Z3 Z4 ZI Zy JF ZT ZW ZB ZA ZY ZX ZZ xStore xLoad V.ones Je Jd Jh Jg Jf Ji Jn Jo Jm ZV Jk Jl Jj zK ZU zL JA Jt Js Ju Jr Jv Ja Jb Jc Z9 max2 cond_true cond_false List.nil_append List.cons_append zLG zLF zLk zLh zLi zLj zLl zLD zLm zLn zLv zLw zLx zLy zLz zLA zLB zLC zLo zLp zLq zLr zLs zLt zLu zLE zAu zAt zFd zFb zFc zjE zFM zGs zGJ zGF zGG zGH zGI zHb zHl zHp zHn zHo zFe zHm zFf zFl zFh zFi zFj zFk zFm zFn zFv zFo zFp zFq zFr zFs zFt zFu zFw zFC zFx zFy zFz zFA zFB zFg zFD zFX zFG zFE zFF zlo zlq zFL zFH zFI zFJ zFK zlu zFO zFR zFP zFQ zFS zFT zFU zFV zjG zFW zF2 zGa zF3 zF4 zF5 zF6 zF7 zF8 zF9 zGb zGk zGc zGd zGe zGf zGg zGh zGi zGj zGl zGm zGq zGo zGp zGr zGn zF1 zFY zFZ zF0 zls zlF zGx zGt zGu zGv zGw zlI zGz zGC zGA zGB zGD zGE zGK zGL zjI zGM zGR zGX zGS zGT zGU zGV zGW zGY zG8 zGZ zG0 zG1 zG2 zG3 zG4 zG5 zG6 zG7 zG9 zHa zHf zHd zHe zHg zHc zGQ zGN zGO zGP zlH zHj zHh zHi zHk
attribute [local simp] ld3 ld126 ld42 ld27 ix27v ix22v JR JS sz3 sz126 sz42 sz27 sp2 sp3 JO min2 zK zL
attribute [-simp] zjG zjI zlo zls zlu zlI zlq zlF zlH zjE
abbrev PrI:=Int×Int
def prsI (l:List PrI):List V:=l.flatMap fun p=> [.int .i64 p.1,.int .i64 p.2]
theorem zyo:∀{l:List PrI} {i:Nat} {p:PrI},l[i]?=some p→(prsI l).drop (i * 2)=.int .i64 p.1::.int .i64 p.2::prsI (l.drop (i+1))
 |[],i,p,h=> by simp at h
 |a::l,0,p,h=> by simp at h;subst h;rfl
 |a::l,i+1,p,h=> by
  simp only [List.getElem?_cons_succ] at h
  have e:(prsI (a::l)).drop ((i+1) * 2)=(prsI l).drop (i * 2):=by
   show (V.int .i64 a.1::.int .i64 a.2::prsI l).drop ((i+1) * 2)=_
   rw [show (i+1) * 2=i * 2+1+1 by omega]
   simp only [List.drop_succ_cons]
  rw [e,zyo h];rfl
theorem zyp {l:List PrI} {i:Nat} {p:PrI} (h:l[i]?=some p):loadV Tryz.prog 42 ((prsI l).drop (i * 2))=some (.agg [.int .i64 p.1,.int .i64 p.2]):=by
 rw [ld42,zyo h,if_pos (by simp)];rfl
def InS (v:V) (l:List PrI):Prop:=(v=.nils∧l=[])∨(v=.ze∧l=[])∨∃o,v=.vs (prsI l) l.length 2 o
theorem InS.vs {v:V} {l:List PrI} (h:InS v l) (hl:l≠[]):∃o,v=.vs (prsI l) l.length 2 o:=by
 rcases h with ⟨_,h⟩|⟨_,h⟩|h
 ·exact absurd h hl
 ·exact absurd h hl
 ·exact h
theorem len22 {v:V} {l:List PrI} (h:InS v l) (get:Nat→Blk) (nid:Nat):builtinV Tryz.prog false get nid .len [22] [v]=some { v:=nv l.length }:=by
 rcases h with ⟨rfl,rfl⟩|⟨rfl,rfl⟩|⟨o,rfl⟩ <;> simp [builtinV,lenV,un22]
def wit (p:PrI) (n:Int):Bool:=decide (0≤min p.1 p.2) && decide (max p.1 p.2 < n)
theorem zO8 (p:PrI) (n:Int) (h:H):callS Tryz.prog hs ks 47 [.agg [.int .i64 p.1,.int .i64 p.2],.int .i64 n] h=some [(.ret (.bool (wit p n)),h)]:=by
 have key:AeRets (fun v _ _=> v=.bool (wit p n)) ((EV Tryz.prog hs ks).call 47 [.agg [.int .i64 p.1,.int .i64 p.2],.int .i64 n] (mkH 0 (fun _=> .gone) [])):=by
  rw [zSx _ (by simp)]
  have e1:(if p.2 < p.1 then p.2 else p.1)=min p.1 p.2:=by rw [Int.min_def];split <;> split <;> omega
  have e2:(if p.1 < p.2 then p.2 else p.1)=max p.1 p.2:=by rw [Int.max_def];split <;> split <;> omega
  by_cases h1:0≤min p.1 p.2
  ·simp (disch:=first|assumption|decide|omega) [e1,e2,h1]
   refine AeRets.mk ?_
   simp [wit,h1]
  ·simp (disch:=first|assumption|decide|omega) [e1,e2,h1]
   refine AeRets.mk ?_
   simp [wit,h1]
 obtain ⟨v,nb',g',d',hc,rfl⟩:=key
 exact QV (args':=[.agg [.int .i64 p.1,.int .i64 p.2],.int .i64 n]) rfl rfl (QT (by decide)) rfl hc (fun n=> rfl) h
def appsOk (t:Int):List PrI→Nat→Bool
 |[],_=> true
 |p::l,i=> wit p (t+i) && appsOk t l (i+1)
def mrgOk (n:Int) (l:List PrI):Bool:=l.all fun p=> wit p n
set_option maxHeartbeats 1000000 in
theorem zPS {t:Int} (ht0:0≤t) (ht:t≤16) {l:List PrI} {av:V} (hA:InS av l) (hL:l.length≤16):∀(k i:Nat) (f:Nat→V) (nb:Nat) (g:Nat→Blk) (d:List Nat),l.length - i=k→i≤l.length→f 0=.int .i64 t→f 7=.fn (.func 47) [] []→f 26=av→f 27=nv l.length→f 28=nv i→
 AeEnds 56 (fun e f' _ _=> (appsOk t (l.drop i) i=true∧e=.exit 1∧∀t,t < 8→f' t=f t)∨(appsOk t (l.drop i) i=false∧e=.ret∧f' 6=.int .i64 2)) (C 21 zjF (S 56 f [] (mkH nb g d))):=by
 intro k
 induction k with
 |zero=>
  intro i f nb g d hk hi f0 f7 f26 f27 f28
  obtain rfl:i=l.length:=by omega
  rw [zFN]
  simp (disch:=first|assumption|decide|omega) [f27,f28,ltN]
  refine AeEnds.mk ?_
  refine .inl ⟨rfl,rfl,fun t ht=> ?_⟩
  simp only [zt];repeat (rw [if_neg (by omega)])
 |succ k ih=>
  intro i f nb g d hk hi f0 f7 f26 f27 f28
  have hil:i < l.length:=by omega
  have hg:l[i]?=some l[i]:=List.getElem?_eq_getElem hil
  have hd:=List.drop_eq_getElem_cons hil
  generalize l[i]=p at hg hd
  obtain ⟨o,rfl⟩:=hA.vs (fun hh=> by rw [hh] at hil;cases hil)
  have h4:=zyp hg
  have hadd:intOp .add .i64 t .i64 (i:Int)=some (.int .i64 (t+i)):=by rw [zq,za4 (by omega) (by omega)]
  have e2:intOp .lss .i64 (i:Int) .i64 (l.length:Int)=some (.bool true):=by rw [ltN];simp [hil]
  have hw:=zO8 p (t+i)
  have e1:=add1 (a:=i) (by omega)
  have hdd:appsOk t (l.drop i) i=(wit p (t+i) && appsOk t (l.drop (i+1)) (i+1)):=by rw [hd];rfl
  rw [zFN]
  cases hb:wit p (t+i) with
  |true=>
   rw [hb] at hw hdd
   rw [Bool.true_and] at hdd
   simp (disch:=first|assumption|decide|omega) [f0,f7,f26,f27,f28,e1,e2,h4,hadd,hw,zjG]
   refine (ih (i+1) _ _ _ _ (by omega) hil ?_ ?_ ?_ ?_ ?_).weak ?_
   ·simp [f0]
   ·simp [f7]
   ·simp [f26]
   ·simp [f27]
   ·simp
   ·rintro e f' nb' g' (⟨q1,rfl,q3⟩|⟨q1,rfl,q3⟩)
    ·refine .inl ⟨hdd.trans q1,rfl,fun t ht=> ?_⟩
     rw [q3 t ht]
     simp only [zt];repeat (rw [if_neg (by omega)])
    ·exact .inr ⟨hdd.trans q1,rfl,q3⟩
  |false=>
   rw [hb] at hw hdd
   rw [Bool.false_and] at hdd
   simp (disch:=first|assumption|decide|omega) [f0,f7,f26,f27,f28,e1,e2,h4,hadd,hw,zjG]
   refine AeEnds.mk ?_
   exact .inr ⟨hdd,rfl,by simp⟩
set_option maxHeartbeats 1000000 in
theorem zPT {t:Int} (ht0:0≤t) (ht:t≤16) {l la:List PrI} {av mv:V} (hA:InS av la) (hM:InS mv l) (hL:l.length≤16) (hLa:la.length≤16):∀(k i:Nat) (f:Nat→V) (nb:Nat) (g:Nat→Blk) (d:List Nat),l.length - i=k→i≤l.length→f 0=.int .i64 t→f 1=av→f 7=.fn (.func 47) [] []→f 41=mv→f 42=nv l.length→f 43=nv i→
 AeEnds 56 (fun e f' _ _=> (mrgOk (t+la.length) (l.drop i)=true∧e=.exit 3)∨(mrgOk (t+la.length) (l.drop i)=false∧e=.ret∧f' 6=.int .i64 2)) (C 21 zjH (S 56 f [] (mkH nb g d))):=by
 intro k
 have hlen:=len22 hA
 induction k with
 |zero=>
  intro i f nb g d hk hi f0 f1 f7 f41 f42 f43
  obtain rfl:i=l.length:=by omega
  rw [zGy]
  simp (disch:=first|assumption|decide|omega) [f42,f43,ltN]
  refine AeEnds.mk ?_
  exact .inl ⟨by simp [mrgOk],rfl⟩
 |succ k ih=>
  intro i f nb g d hk hi f0 f1 f7 f41 f42 f43
  have hil:i < l.length:=by omega
  have hg:l[i]?=some l[i]:=List.getElem?_eq_getElem hil
  have hd:=List.drop_eq_getElem_cons hil
  generalize l[i]=p at hg hd
  obtain ⟨o,rfl⟩:=hM.vs (fun hh=> by rw [hh] at hil;cases hil)
  have h4:=zyp hg
  have hadd:intOp .add .i64 t .i64 (la.length:Int)=some (.int .i64 (t+la.length)):=by rw [zq,za4 (by omega) (by omega)]
  have e2:intOp .lss .i64 (i:Int) .i64 (l.length:Int)=some (.bool true):=by rw [ltN];simp [hil]
  have hw:=zO8 p (t+la.length)
  have e1:=add1 (a:=i) (by omega)
  have hdd:mrgOk (t+la.length) (l.drop i)=(wit p (t+la.length) && mrgOk (t+la.length) (l.drop (i+1))):=by rw [hd];rfl
  rw [zGy]
  cases hb:wit p (t+la.length) with
  |true=>
   rw [hb] at hw hdd
   rw [Bool.true_and] at hdd
   simp (disch:=first|assumption|decide|omega) [f0,f1,f7,f41,f42,f43,e1,e2,h4,hadd,hw,hlen,zjI]
   refine (ih (i+1) _ _ _ _ (by omega) hil ?_ ?_ ?_ ?_ ?_ ?_).weak ?_
   ·simp [f0]
   ·simp [f1]
   ·simp [f7]
   ·simp [f41]
   ·simp [f42]
   ·simp
   ·rintro e f' nb' g' (⟨q1,rfl⟩|⟨q1,rfl,q3⟩)
    ·exact .inl ⟨hdd.trans q1,rfl⟩
    ·exact .inr ⟨hdd.trans q1,rfl,q3⟩
  |false=>
   rw [hb] at hw hdd
   rw [Bool.false_and] at hdd
   simp (disch:=first|assumption|decide|omega) [f0,f1,f7,f41,f42,f43,e1,e2,h4,hadd,hw,hlen,zjI]
   refine AeEnds.mk ?_
   exact .inr ⟨hdd,rfl,by simp⟩
theorem InS.shut {v:V} {l:List PrI} (h:InS v l):InS (V.shut v) l∧V.pure (V.shut v)=true:=by
 rcases h with ⟨rfl,rfl⟩|⟨rfl,rfl⟩|⟨o,rfl⟩
 ·exact ⟨.inl ⟨rfl,rfl⟩,rfl⟩
 ·exact ⟨.inr (.inl ⟨rfl,rfl⟩),rfl⟩
 ·cases o with
  |tight=> exact ⟨.inr (.inr ⟨.tight,rfl⟩),rfl⟩
  |lock=> exact ⟨.inr (.inr ⟨.lock,rfl⟩),rfl⟩
  |tok r e=> exact ⟨.inr (.inr ⟨.lock,rfl⟩),rfl⟩
def chkR (t:Int) (la lm:List PrI):Int:=if t < 0 then 2 else if appsOk t la 0=true∧mrgOk (t+la.length) lm=true then 0 else 2
set_option maxHeartbeats 1000000 in
theorem zDz {t:Int} {la lm:List PrI} {av mv:V} (ht:t≤16) (htl: -1000000≤t∨t < 0) (hA:InS av la) (hM:InS mv lm) (hLa:la.length≤16) (hLm:lm.length≤16) (h:H):callS Tryz.prog hs ks 21 [.int .i64 t,av,mv] h=some [(.ret (.int .i64 (chkR t la lm)),h)]:=by
 obtain ⟨hA',pa⟩:=hA.shut
 obtain ⟨hM',pm⟩:=hM.shut
 generalize hav:V.shut av=av' at hA' pa
 generalize hmv:V.shut mv=mv' at hM' pm
 have key:AeRets (fun v _ _=> v=.int .i64 (chkR t la lm)) ((EV Tryz.prog hs ks).call 21 [.int .i64 t,av',mv'] (mkH 0 (fun _=> .gone) [])):=by
  have la1:=len22 hA'
  have lm1:=len22 hM'
  rw [zRm _ (by simp),zAt]
  refine AeEnds.rets (n:=56) (Q:=fun e f' _ _=> e=.ret∧f' 6=.int .i64 (chkR t la lm)) ?_ ?_
  ·by_cases h0:t < 0
   ·simp (disch:=first|assumption|decide|omega) [h0,zjE]
    refine AeEnds.mk ?_
    exact ⟨rfl,by simp [chkR,h0]⟩
   ·have g1:intOp .gtr .i64 t .i64 2000=some (.bool false):=by rw [zr];simp;omega
    have g2:intOp .add .i64 t .i64 (la.length:Int)=some (.int .i64 (t+la.length)):=by rw [zq,za4 (by omega) (by omega)]
    have g3:intOp .gtr .i64 (t+la.length) .i64 2000=some (.bool false):=by rw [zr];simp;omega
    have g4:intOp .gtr .i64 (lm.length:Int) .i64 2000=some (.bool false):=by rw [zr];simp;omega
    simp (disch:=first|assumption|decide|omega) [h0,zjE,g1,g2,g3,g4,la1,lm1,zlo,zlq]
    refine AeEnds.then (Q:=fun e f' _ _=> (appsOk t la 0=true∧e=.normal∧f' 0=.int .i64 t∧f' 1=av'∧f' 2=mv'∧f' 7=.fn (.func 47) [] [])∨(appsOk t la 0=false∧e=.ret∧f' 6=.int .i64 2)) ?_ ?_ ?_
    ·rw [zlu]
     refine AeEnds.block (zPS (by omega) ht hA' hLa la.length 0 _ _ _ _ rfl (Nat.zero_le _) ?_ ?_ ?_ ?_ ?_) ?_ ?_
     ·simp
     ·simp
     ·simp
     ·simp
     ·simp
     ·rintro f' nb' g' (⟨q1,_,q3⟩|⟨_,q2,_⟩)
      ·exact .inl ⟨q1,rfl,by rw [q3 0 (by omega)];simp,by rw [q3 1 (by omega)];simp,by rw [q3 2 (by omega)];simp,by rw [q3 7 (by omega)];simp⟩
      ·cases q2
     ·rintro e f' nb' g' hne (⟨_,rfl,_⟩|⟨q1,rfl,q3⟩)
      ·exact absurd rfl hne
      ·exact .inr ⟨q1,rfl,q3⟩
    ·rintro f1 nb1 g1 d1 (⟨ha,_,e0,e1,e2,e7⟩|⟨_,q2,_⟩)
     ·rw [zls]
      refine AeEnds.then (Q:=fun e f' _ _=> (mrgOk (t+la.length) lm=true∧e=.normal)∨(mrgOk (t+la.length) lm=false∧e=.ret∧f' 6=.int .i64 2)) ?_ ?_ ?_
      ·rw [zlF]
       simp (disch:=first|assumption|decide|omega) [e2,lm1]
       rw [zlI]
       refine AeEnds.block (zPT (by omega) ht hA' hM' hLm hLa lm.length 0 _ _ _ _ rfl (Nat.zero_le _) ?_ ?_ ?_ ?_ ?_ ?_) ?_ ?_
       ·simp [e0]
       ·simp [e1]
       ·simp [e7]
       ·simp
       ·simp
       ·simp
       ·rintro f' nb' g' (⟨q1,_⟩|⟨_,q2,_⟩)
        ·exact .inl ⟨q1,rfl⟩
        ·cases q2
       ·rintro e f' nb' g' hne (⟨_,rfl⟩|⟨q1,rfl,q3⟩)
        ·exact absurd rfl hne
        ·exact .inr ⟨q1,rfl,q3⟩
      ·rintro f2 nb2 g2 d2 (⟨hm,_⟩|⟨_,q2,_⟩)
       ·rw [zlH]
        simp (disch:=first|assumption|decide|omega)
        refine AeEnds.mk ?_
        exact ⟨rfl,by simp [chkR,h0,ha,hm]⟩
       ·cases q2
      ·rintro e f2 nb2 g2 hne (⟨_,rfl⟩|⟨q1,rfl,q3⟩)
       ·exact absurd rfl hne
       ·exact ⟨rfl,by rw [q3];simp [chkR,h0,q1]⟩
     ·cases q2
    ·rintro e f1 nb1 g1 hne (⟨_,rfl,_⟩|⟨q1,rfl,q3⟩)
     ·exact absurd rfl hne
     ·exact ⟨rfl,by rw [q3];simp [chkR,h0,q1]⟩
  ·rintro e f' nb' g' d' ⟨rfl,q⟩
   rw [zAu]
   simp (disch:=first|assumption|decide|omega) [q]
   exact AeRets.mk rfl
 obtain ⟨v,nb',g',d',hc,rfl⟩:=key
 refine QV (args':=[.int .i64 t,av',mv']) ?_ ?_ (QT (by decide)) rfl hc (fun n=> rfl) h
 ·show [V.shut (.int .i64 t),V.shut av,V.shut mv]=_
  rw [hav,hmv];rfl
 ·show (V.pure (.int .i64 t) && (V.pure av' && (V.pure mv' && true)))=true
  rw [pa,pm];rfl
end Go.Proofs.YtdlaladdeelegaaGreat.Cg
end
noncomputable section
namespace Go.Proofs.YtdlaladdeelegaaGreat.Cg
open Go Go.Ae
attribute [local simp] setF ZF JC JB ZR ZS Zo ZE Jx Jw Jq Zw Zk S_h ZH Zz ZM ZK ZL zt ZO ZN Z7 Zj Jp Z8 JD JE Zt Z0 valS ZP ZQ zq zB zz zA zo Z5 zr zO Jy Jz JG JH Z1 Z2 Z3 Z4 ZI Zy JF ZT ZW ZB ZA ZY ZX ZZ xStore xLoad V.ones Je Jd Jh Jg Jf Ji Jn Jo Jm ZV Jk Jl Jj zK ZU zL JA Jt Js Ju Jr Jv Ja Jb Jc Z9 max2 cond_true cond_false List.nil_append List.cons_append zCt k9_c zL7 zL4 zL5 zL6 zCn zMQ zNp zNj zNk zNl zNm zNn zNo zNq zNu zNr zNs zNt zNv zNw zMc zL8 zL9 zMa zMb zv8 zNx zCs zMj zMd zMe zMf zMg zMh zMi zwa zMs zMk zMl zMm zMn zMo zMp zMq zMr zCk zCl zMB zMu zMv zMw zMx zMy zMz zMA zCm zMC zMF zMD zME zMG zMH zMJ zMK zMI zML zMR zMY zMS zMT zMU zMV zMW zMX zNc zMZ zM0 zM4 zM5 zM6 zM7 zM8 zM9 zNa zNb zM1 zM2 zM3 zMP zMM zMN zMO zMt zNh zNd zNe zNf zNg zNi
attribute [local simp] ld3 ld126 ld42 ld27 ld78 ix27v ix27h ix78h ix22v sz3 sz126 sz42 sz27 JO zK zL
attribute [-simp] zwa zv8
mutual
theorem shift0:∀v:V,v.shift 0=v
 |.bool _|.int _ _|.str _|.nilp|.iptr _|.nils|.ze|.nilm|.nilf|.nilif=> rfl
 |.ptr r o=> by simp [V.shift]
 |.vs cs l z .tight|.vs cs l z .lock=> rfl
 |.vs cs l z (.tok r e)=> by simp [V.shift]
 |.hs r o l c z x=> by simp [V.shift]
 |.map r=> by simp [V.shift]
 |.iface t v=> by simp only [V.shift];rw [shift0 v]
 |.agg cs=> by simp only [V.shift];rw [shifts0 cs]
 |.tup cs=> by simp only [V.shift];rw [shifts0 cs]
 |.fn f a b=> by
  simp only [V.shift]
  rw [shifts0 a,shifts0 b]
  cases f <;> simp [fnShift]
theorem shifts0:∀l:List V,V.shifts 0 l=l
 |[]=> rfl
 |v::l=> by simp only [V.shifts];rw [shift0 v,shifts0 l]
end
theorem zkG (h:H) (n:Nat):∀(k i j:Nat),j < k→(blksOf h n k i).getD j .gone=(h.get (i+j)).shift n
 |0,i,j,hj=> by omega
 |k+1,i,0,_=> rfl
 |k+1,i,j+1,hj=> by
  show (blksOf h n k (i+1)).getD j .gone=_
  rw [zkG h n k (i+1) j (by omega)]
  congr 2;omega
theorem zb1 (h:H) (n:Nat):∀(k i:Nat),(blksOf h n k i).length=k
 |0,_=> rfl
 |k+1,i=> by show (blksOf h n k (i+1)).length+1=_;rw [zb1 h n k]
theorem zNY:∀(bs:List Blk) (n:Nat) (g:Nat→Blk) (d:List Nat),H.news (mkH n g d) bs=mkH (n+bs.length) (updN g n bs) d
 |[],n,g,d=> rfl
 |b::bs,n,g,d=> by
  show H.news ((mkH n g d).new b) bs=_
  rw [zNV,zNY bs]
  congr 1
  simp only [List.length_cons];omega
theorem zPL {f:FuncId} {args args':List V} {v:V} {nb1:Nat} {g1:Nat→Blk} {d1:List Nat} (hs':V.seals args=args') (hp:V.pures args'=true) (hk:ks.call f args'=none) (hh:hs.heap f=true)
 (hc:(EV Tryz.prog hs ks).call f args' H.empty=some [(.ret v,mkH nb1 g1 d1)]) (g:Nat→Blk) (d:List Nat):
 ∃g',callS Tryz.prog hs ks f args (mkH 0 g d)=some [(.ret v,mkH nb1 g' d)]∧∀r,r < nb1→g' r=(g1 r).shift 0:=by
 refine ⟨updN g 0 (blksOf (mkH nb1 g1 d1) 0 nb1 0),?_,fun r hr=> ?_⟩
 ·subst hs'
  unfold callS
  rw [if_pos hp]
  have:callP hs ks (EV Tryz.prog hs ks) f (V.seals args) (mkH 0 g d).n=some [{ v:=v.shift 0,nw:=blksOf (mkH nb1 g1 d1) 0 nb1 0 }]:=by
   unfold callP
   rw [hk]
   simp only
   rw [hc]
   simp only
   unfold allO
   have hl:leaveE hs f (mkH 0 g d).n (.ret v,mkH nb1 g1 d1)=some { v:=v.shift 0,nw:=blksOf (mkH nb1 g1 d1) 0 nb1 0 }:=by
    show (if hs.heap f then _ else _)=_
    rw [if_pos hh];rfl
   rw [hl];rfl
  rw [this]
  show some [(R.ret (v.shift 0),H.news (mkH 0 g d) (blksOf (mkH nb1 g1 d1) 0 nb1 0))]=_
  rw [shift0,zNY,zb1,Nat.zero_add]
 ·rw [zdc,zb1,if_pos ⟨Nat.zero_le _,by omega⟩,Nat.sub_zero,zkG _ _ _ _ _ hr,Nat.zero_add,Zj hr]
theorem zyw {b:Blk} {k:Nat} {cs:List V} (h:b=.row k cs):b.shift 0=.row k cs:=by
 subst h;show Blk.row k (V.shifts 0 cs)=_;rw [shifts0]
def minsF (A:Cl):List Nat→Option (List Nat)
 |[]=> some []
 |k::l=> match A.mem[k]? with
  |some (a::q)=> if (a::q).length < 100000 then (match minsF A l with|some r=> some (lmin a q::r)|none=> none) else none
  |_=> none
theorem close1 (i:Int) (h:H):callS Tryz.prog hs ks 23 [.int .i64 i] h=some [(.ret (.bool true),h)]:=by
 have key:AeRets (fun v _ _=> v=.bool true) ((EV Tryz.prog hs ks).call 23 [.int .i64 i] (mkH 0 (fun _=> .gone) [])):=by
  rw [zRx _ (by simp)]
  simp (disch:=first|assumption|decide|omega) [zRz,zRy,zRw,zRq,zRo,zRp,zRr,zRu,zRs,zRt,zRv]
  exact AeRets.mk rfl
 obtain ⟨v,nb',g',d',hc,rfl⟩:=key
 exact QV (args':=[.int .i64 i]) rfl rfl (QT (by decide)) rfl hc (fun n=> rfl) h
set_option maxHeartbeats 1000000 in
theorem zYj {c rc rm ro n m nb:Nat} {A:Cl} {vm cs1:List V} {av x4 x5 x6 x7:V} (hn:n < 100000) (hlm:vm.length=n) (hlc:A.cls.length=n) (hkm:A.mem.length=n) (hsv:∀(k:Nat) (v:V) (l:List Nat),vm[k]?=some v→A.mem[k]?=some l→SlV v l) (l1:c < nb) (l2:rc < nb) (l3:rm < nb) (l4:ro < nb) (d1':c≠ro) (d2':rc≠ro) (d3':rm≠ro):
 ∀(k i:Nat) (o r:List Nat) (f:Nat→V) (g:Nat→Blk) (d:List Nat),n - i=k→i≤n→minsF A (A.cls.drop i)=some r→f 9=.ptr c 0→f 10=.hs ro 0 n n 1 true→f 33=.hs rc 0 n n 1 false→f 34=nv n→f 35=nv i→g c=.row 0 [nv m,av,.hs rc 0 n n 1 false,.hs rm 0 n n 1 true,x4,x5,x6,x7]→g rc=.row 0 (ints A.cls)→g rm=.row 0 vm→g ro=.row 0 (ints o)→o.length=n→
 AeEnds 53 (fun e f' nb' g'=> e=.exit 0∧nb'=nb∧f' 10=.hs ro 0 n n 1 true∧g' ro=.row 0 (ints (o.take i++r))) (C 9 zkk (S 53 f [] (mkH nb g d))):=by
 intro k
 induction k with
 |zero=>
  intro i o r f g d hk hi h f9 f10 f33 f34 f35 hc hrc hrm hro hlo
  obtain rfl:i=n:=by omega
  rw [List.drop_of_length_le (by omega)] at h
  obtain rfl:[]=r:=Option.some.inj h
  rw [zCo]
  simp (disch:=first|assumption|decide|omega) [f34,f35,ltN]
  refine AeEnds.mk ?_
  refine ⟨rfl,rfl,by simp [f10],?_⟩
  rw [List.take_of_length_le (by omega)];exact hro
 |succ k ih=>
  intro i o r f g d hk hi h f9 f10 f33 f34 f35 hc hrc hrm hro hlo
  have hin:i < n:=by omega
  have hin':i≤n:=hi
  have ek:n - (i+1)=k:=by omega
  have hg:A.cls[i]?=some A.cls[i]:=List.getElem?_eq_getElem (by omega)
  rw [List.drop_eq_getElem_cons (by omega)] at h
  generalize A.cls[i]=j at hg h
  unfold minsF at h
  split at h
  ·rename_i a q hmem
   split at h
   ·rename_i hql
    split at h
    ·rename_i r' hr'
     obtain rfl:=Option.some.inj h
     have h1:=Zp hg
     have hjn:j < vm.length:=by rw [hlm,←hkm];exact (List.getElem?_eq_some_iff.1 hmem).1
     have v1:vm[j]?=some vm[j]:=List.getElem?_eq_getElem hjn
     have hsl:=hsv j _ _ v1 hmem
     generalize vm[j]=w at v1 hsl
     have hjn':j≤n:=by omega
     have hjn2:j < n:=by omega
     obtain ⟨ow,rfl⟩:∃ow,w=.vs (ints (a::q)) (a::q).length 1 ow:=by
      rcases hsl with ⟨_,hh⟩|hh
      ·cases hh
      ·exact hh
     have h2:=za7 v1
     have hmin:∀h,callS Tryz.prog hs ks 24 [.vs (ints (a::q)) (q.length+1) 1 ow] h=some [(.ret (nv (lmin a q)),h)]:=fun h=> zXM hql h
     have sp1:splice (ints o) [nv (lmin a q)] i=some (ints (o.set i (lmin a q))):=by rw [zaV (by rw [Zu];omega),zzg]
     have e1:=add1 (a:=i) (by omega)
     have e2:intOp .lss .i64 (i:Int) .i64 (n:Int)=some (.bool true):=by rw [ltN];simp [hin]
     rw [zCo]
     simp (disch:=first|assumption|decide|omega) [f9,f10,f33,f34,f35,e1,e2,hc,hrc,hrm,hro,h1,h2,Zu,hlc,hlm,hlo,hin',hjn',hmin,sp1]
     refine (ih (i+1) (o.set i (lmin a q)) r' _ _ _ ek hin hr' ?_ ?_ ?_ ?_ ?_ ?_ ?_ ?_ ?_ (by rw [List.length_set];exact hlo)).weak ?_
     ·simp [f9]
     ·simp [f10]
     ·simp [f33]
     ·simp [f34]
     ·simp
     ·simp (disch:=first|assumption|decide|omega) [hc]
     ·simp (disch:=first|assumption|decide|omega) [hrc]
     ·simp (disch:=first|assumption|decide|omega) [hrm]
     ·simp
     ·rintro e f' nb' g' ⟨rfl,rfl,q1,q2⟩
      refine ⟨rfl,rfl,q1,?_⟩
      rw [q2]
      congr 2
      rw [List.take_add_one,List.take_set_of_le (Nat.le_refl i),List.getElem?_set_self (by omega)]
      simp
    ·cases h
   ·cases h
  ·cases h
def toK (l:List PrI):List Key:=l.map fun p=> (p.1.toNat,p.2.toNat)
theorem Qe (l:List PrI):(toK l).length=l.length:=List.length_map _
theorem zyq:∀{l:List PrI},(∀p∈l,0≤p.1∧0≤p.2)→prs (toK l)=prsI l
 |[],_=> rfl
 |p::l,h=> by
  have h1:=h p List.mem_cons_self
  show nv p.1.toNat::nv p.2.toNat::prs (toK l)=.int .i64 p.1::.int .i64 p.2::prsI l
  rw [zyq fun q hq=> h q (List.mem_cons_of_mem _ hq)]
  have e1:((p.1.toNat:Nat):Int)=p.1:=Int.toNat_of_nonneg h1.1
  have e2:((p.2.toNat:Nat):Int)=p.2:=Int.toNat_of_nonneg h1.2
  show V.int .i64 ((p.1.toNat:Nat):Int)::V.int .i64 ((p.2.toNat:Nat):Int)::_=_
  rw [e1,e2]
theorem zjp {p:PrI} {n:Int} (h:wit p n=true):0≤p.1∧0≤p.2∧p.1 < n∧p.2 < n:=by
 unfold wit at h
 rw [Bool.and_eq_true,decide_eq_true_eq,decide_eq_true_eq] at h
 omega
theorem zyJ {t:Int}:∀{l:List PrI} {i:Nat},appsOk t l i=true→∀p∈l,0≤p.1∧0≤p.2
 |[],_,_,p,hp=> by cases hp
 |q::l,i,h,p,hp=> by
  unfold appsOk at h
  rw [Bool.and_eq_true] at h
  rcases List.mem_cons.1 hp with rfl|hp
  ·have:=zjp h.1;exact ⟨this.1,this.2.1⟩
  ·exact zyJ h.2 p hp
theorem zNT {n:Int} {l:List PrI} (h:mrgOk n l=true):∀p∈l,0≤p.1∧0≤p.2:=fun p hp=> by
 have:=zjp (List.all_eq_true.1 h p hp);exact ⟨this.1,this.2.1⟩
theorem zOp:∀n,repl [V.int .i64 0] n=ints (List.replicate n 0)
 |0=> rfl
 |n+1=> by show [V.int .i64 0]++repl [V.int .i64 0] n=_;rw [zOp n,List.replicate_succ];rfl
theorem mk3 {n nid:Nat} (hn:n < 100000):mkS Tryz.prog 3 nid (nv n) (nv n)=some { v:=.hs nid 0 n n 1 true,nw:=[.row 0 (ints (List.replicate n 0))] }:=by
 unfold mkS
 simp only [asI]
 unfold xMake
 rw [by3,ok3,sz3,zero3]
 rw [if_pos ⟨by omega,by omega,by omega,by omega,rfl⟩]
 by_cases h0:n=0
 ·subst h0;rfl
 ·simp [h0,ZB,zOp]
theorem zy4 (h:H) (k:Nat):∀l:List Nat,mapO (Ae.freeze h (k+1)) (ints l)=some (ints l)
 |[]=> rfl
 |a::l=> by
  show (match Ae.freeze h (k+1) (nv a),mapO (Ae.freeze h (k+1)) (ints l) with
   |some v,some vs=> some (v::vs)
   |_,_=> none)=_
  rw [zy4 h k l];rfl
theorem zYz {ro n nb:Nat} {res:List Nat} {g:Nat→Blk} {d:List Nat} (hro:ro < nb) (hg:g ro=.row 0 (ints res)) (hl:res.length=n) (e:Int) (nid:Nat):retok nid (mkH nb g d) (.tup [.hs ro 0 n n 1 true,.int .i64 e])=some { v:=.tup [.vs (ints res) n 1 .tight,.int .i64 e] }:=by
 have h1:Ae.freeze (mkH nb g d) 59 (.hs ro 0 n n 1 true)=some (.vs (ints res) n 1 .tight):=by
  show (match (mkH nb g d).get ro with
   |.row _ cs=> if 0+n * 1≤cs.length then
    match mapO (Ae.freeze (mkH nb g d) 58) ((cs.drop 0).take (n * 1)) with
    |some cs=> some (V.vs cs n 1 (if true && n==n then .tight else .lock))
    |none=> none
    else none
   |_=> none)=_
  rw [Zj hro,hg]
  simp only [Zu,hl]
  rw [if_pos (by omega),List.drop_zero,List.take_of_length_le (by rw [Zu];omega),zy4]
  simp
 have h2:Ae.freeze (mkH nb g d) 60 (.tup [.hs ro 0 n n 1 true,.int .i64 e])=some (.tup [.vs (ints res) n 1 .tight,.int .i64 e]):=by
  show (mapO (Ae.freeze (mkH nb g d) 59) [.hs ro 0 n n 1 true,.int .i64 e]).map V.tup=_
  show (match Ae.freeze (mkH nb g d) 59 (.hs ro 0 n n 1 true),mapO (Ae.freeze (mkH nb g d) 59) [V.int .i64 e] with
   |some v,some vs=> some (v::vs)
   |_,_=> none).map V.tup=_
  rw [h1];rfl
 show (match Ae.freeze (mkH nb g d) 60 (.tup [.hs ro 0 n n 1 true,.int .i64 e]) with
  |some v=> some ({ v }:Eff)
  |none=> none)=_
 rw [h2]
set_option maxHeartbeats 2000000 in
theorem zP0 {m fu:Nat} {la lm:List PrI} {av mv:V} {A:Cl} {res:List Nat} (hm:m≤16) (hA:InS av la) (hM:InS mv lm) (hLa:la.length≤16) (hLm:lm.length≤16) (hchk:chkR m la lm=0) (hnew:newF (toK la) (toK lm) m fu (fun _=> true)=some A) (hmin:minsF A A.cls=some res) (hrl:res.length=m+la.length):
 AeRets (fun v nb' g'=> ∃ro,v=.tup [.hs ro 0 (m+la.length) (m+la.length) 1 true,.int .i64 0]∧ro < nb'∧g' ro=.row 0 (ints res)) ((EV Tryz.prog hs ks).call 9 [nv m,av,mv] (mkH 0 (fun _=> .gone) [])):=by
 have hck:=zDz (t:=(m:Int)) (by omega) (.inl (by omega)) hA hM hLa hLm
 rw [hchk] at hck
 have hok:appsOk m la 0=true∧mrgOk (m+la.length) lm=true:=by
  unfold chkR at hchk
  rw [if_neg (by omega)] at hchk
  split at hchk
  ·assumption
  ·cases hchk
 have ea:=zyq (zyJ hok.1)
 have em:=zyq (zNT hok.2)
 obtain ⟨hA',pa⟩:=hA.shut
 obtain ⟨hM',pm⟩:=hM.shut
 have hn:m+(toK la).length < 100000:=by rw [Qe];omega
 have hkA:toK la≠[]→∃o,V.shut av=.vs (prs (toK la)) (toK la).length 2 o:=fun hh=> by
  obtain ⟨o,ho⟩:=hA'.vs (fun h=> hh (by rw [h];rfl))
  exact ⟨o,by rw [ho,ea,Qe]⟩
 have hkM:toK lm≠[]→∃o,V.shut mv=.vs (prs (toK lm)) (toK lm).length 2 o:=fun hh=> by
  obtain ⟨o,ho⟩:=hM'.vs (fun h=> hh (by rw [h];rfl))
  exact ⟨o,by rw [ho,em,Qe]⟩
 have h0:m+(toK la).length=0→toK lm=[]:=fun hh=> by
  rw [Qe] at hh
  cases lm with
  |nil=> rfl
  |cons p l=>
   have:=zjp (List.all_eq_true.1 hok.2 p List.mem_cons_self)
   omega
 have hU:UsedBy 0 (fun _=> .gone) (.fn (.func 23) [] []) (fun _=> true) (toK lm).length:=fun i N G D _ _ _=> close1 i _
 obtain ⟨cv,nb1,g1,d1,hcall,c,rfl,hR⟩:=zXV (d:=[]) hkA hkM (fun get nid=> by rw [Qe];exact len22 hA' get nid) (fun get nid=> by rw [Qe];exact len22 hM' get nid) (by rcases hA' with ⟨h,_⟩|⟨h,_⟩|⟨o,h⟩ <;> rw [h] <;> rfl) hn (by rw [Qe];omega) h0 hU hnew
 rw [Qe] at hR
 rw [←zDI] at hcall
 rw [zNy _ (by simp),k9_c]
 generalize hN:m+la.length=n at *
 refine AeEnds.rets (n:=53) (Q:=fun e f' nb' g'=> e=.ret∧∃ro,f' 6=.hs ro 0 n n 1 true∧f' 7=.int .i64 0∧ro < nb'∧g' ro=.row 0 (ints res)) ?_ ?_
 ·have hneq:binV Tryz.prog .neq 28 false true (.int .i64 0) (.int .i64 0)=some (.bool false):=rfl
  refine AeEnds.seq (P:=fun f' nb' g'=> nb'=0∧f' 0=nv m∧f' 1=av∧f' 2=mv) ?_ ?_
  ·simp (disch:=first|assumption|decide|omega)
   refine AeEnds.mk ?_
   exact ⟨rfl,rfl,by simp,by simp,by simp⟩
  rintro f1 nb1' g1' d1' ⟨rfl,a0,a1,a2⟩
  rw [zCn]
  refine AeEnds.seq (P:=fun f' nb' g'=> nb'=0∧f' 0=nv m∧f' 1=av∧f' 2=mv) ?_ ?_
  ·simp (disch:=first|assumption|decide|omega) [a0,a1,a2,hck,hneq]
   refine AeEnds.mk ?_
   exact ⟨rfl,rfl,by simp [a0],by simp [a1],by simp [a2]⟩
  rintro f2 nb2 g2 d2 ⟨rfl,b0,b1,b2⟩
  rw [zCs]
  have hsl:V.seals [nv m,av,mv,.fn (.func 23) [] []]=[nv m,V.shut av,V.shut mv,.fn (.func 23) [] []]:=rfl
  have hpu:V.pures [nv m,V.shut av,V.shut mv,.fn (.func 23) [] []]=true:=by
   show (V.pure (nv m) && (V.pure (V.shut av) && (V.pure (V.shut mv) && (V.pure (.fn (.func 23) [] []) && true))))=true
   rw [pa,pm];rfl
  obtain ⟨g3,hkeep,hg3⟩:=zPL hsl hpu (QT (by decide)) rfl hcall g2 d2
  refine AeEnds.seq (P:=fun f' nb' g'=> nb'=nb1∧f' 9=.ptr c 0∧g'=g3) ?_ ?_
  ·simp (disch:=first|assumption|decide|omega) [b0,b1,b2,hkeep]
   refine AeEnds.mk ?_
   exact ⟨rfl,rfl,by simp,rfl⟩
  rintro f3 nb3 g3' d3 ⟨hb,c9,hg⟩
  have hb:=hb.symm
  have hg:=hg.symm
  subst hb hg
  rw [zwa]
  by_cases hn0:n=0
  ·obtain ⟨hcn,rest,hcr⟩:=hR.none hn0
   have hres:res=[]:=List.length_eq_zero_iff.1 (by omega)
   have hg:=zyw hcr
   rw [←hg3 c hcn] at hg
   have hm3 (nid:Nat):mkS Tryz.prog 3 nid (.int .i64 0) (.int .i64 0)=some { v:=.hs nid 0 0 0 1 true,nw:=[.row 0 []] }:=mk3 (n:=0) (by omega)
   have hlen:∀get nid,builtinV Tryz.prog false get nid .len [27] [.nils]=some { v:=.int .i64 0 }:=len27 (l:=[]) (.inl ⟨rfl,rfl⟩)
   have hlt:intOp .lss .i64 0 .i64 0=some (.bool false):=rfl
   simp (disch:=first|assumption|decide|omega) [c9,hg,hm3,hlen,zCo,hlt]
   refine AeEnds.mk ?_
   refine ⟨rfl,nb1,?_,by simp,by omega,?_⟩
   ·simp [hn0]
   ·simp [hres,ints]
  ·obtain ⟨I,vm,vu,rfl,hC⟩:=hR.some hn0
   have hIl:∀r∈I.all,r < nb1:=fun r hr=> (hC.lt r hr).2
   have l1:=hIl I.c (by simp [Ids.all])
   have l2:=hIl I.rc (by simp [Ids.all])
   have l3:=hIl I.rm (by simp [Ids.all])
   have q1:=zyw hC.c
   have q2:=zyw hC.rc
   have q3:=zyw hC.rm
   rw [←hg3 _ l1] at q1
   rw [←hg3 _ l2] at q2
   rw [←hg3 _ l3] at q3
   have hm3 (nid:Nat):=mk3 (n:=n) (nid:=nid) (by omega)
   have hlh:∀get nid,builtinV Tryz.prog false get nid .len [27] [.hs I.rc 0 n n 1 false]=some { v:=nv n }:=fun get nid=> by simp [builtinV,lenV,un27]
   refine AeEnds.seq (P:=fun f' nb' g'=> nb'=nb1+1∧f' 9=.ptr I.c 0∧f' 10=.hs nb1 0 n n 1 true∧g' nb1=.row 0 (ints (List.replicate n 0))∧∀r,r < nb1→g' r=g3 r) ?_ ?_
   ·simp (disch:=first|assumption|decide|omega) [c9,q1,hlh,hm3]
    refine AeEnds.mk ?_
    refine ⟨rfl,rfl,by simp [c9],by simp,by simp,fun r hr=> ?_⟩
    have x1:¬r=nb1:=by omega
    simp only [atB,at1,if_neg x1]
   rintro f4 nb4 g4 d4 ⟨rfl,e9,e10,er,eg⟩
   rw [zCk]
   have q1':=(eg _ l1).trans q1
   have q2':=(eg _ l2).trans q2
   have q3':=(eg _ l3).trans q3
   refine AeEnds.seq (P:=fun f' nb' g'=> nb'=nb1+1∧f' 10=.hs nb1 0 n n 1 true∧g' nb1=.row 0 (ints res)) ?_ ?_
   ·rw [zCl]
    refine AeEnds.seq (P:=fun f' nb' g'=> nb'=nb1+1∧g'=g4∧f' 9=.ptr I.c 0∧f' 10=.hs nb1 0 n n 1 true∧f' 33=.hs I.rc 0 n n 1 false∧f' 34=nv n∧f' 35=nv 0) ?_ ?_
    ·simp (disch:=first|assumption|decide|omega) [e9,q1',hlh]
     refine AeEnds.mk ?_
     exact ⟨rfl,rfl,rfl,by simp [e9],by simp [e10],by simp,by simp,by simp⟩
    rintro f5 nb5 g5 d5 ⟨rfl,hg,i9,i10,i33,i34,i35⟩
    have hg:=hg.symm
    subst hg
    rw [zCm]
    have hsv:∀(k:Nat) (v:V) (l:List Nat),vm[k]?=some v→A.mem[k]?=some l→SlV v l:=fun k v l h1 h2=> (hC.sm k v l h1 h2).slv
    refine (zYj (c:=I.c) (rc:=I.rc) (rm:=I.rm) (ro:=nb1) (cs1:=[]) (by omega) hC.lm hC.lc hC.km hsv (by omega) (by omega) (by omega) (by omega) (by omega) (by omega) (by omega) n 0 (List.replicate n 0) res f5 g4 d5 rfl (Nat.zero_le _) (by rw [List.drop_zero];exact hmin) i9 i10 i33 i34 i35 q1' q2' q3' er (by simp)).block ?_ ?_
    ·rintro f6 nb6 g6 ⟨_,rfl,w1,w2⟩
     exact ⟨rfl,rfl,w1,by simpa using w2⟩
    ·rintro e f6 nb6 g6 hne ⟨rfl,_⟩;exact absurd rfl hne
   rintro f6 nb6 g6 d6 ⟨rfl,j10,jr⟩
   simp (disch:=first|assumption|decide|omega) [j10]
   refine AeEnds.mk ?_
   exact ⟨rfl,nb1,by simp,by simp,by omega,jr⟩
 ·rintro e f' nb' g' d' ⟨rfl,ro,h6,h7,h8,h9⟩
  rw [zCt]
  simp (disch:=first|assumption|decide|omega) [h6,h7]
  refine AeRets.mk ?_
  exact ⟨ro,rfl,h8,h9⟩
end Go.Proofs.YtdlaladdeelegaaGreat.Cg
end
