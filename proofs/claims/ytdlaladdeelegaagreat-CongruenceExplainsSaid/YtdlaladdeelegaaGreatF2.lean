/- The closure, walked: classes become one. -/
import Derived.Test.YtdlaladdeelegaaGreatF1
set_option linter.all false
noncomputable section
namespace Go.Proofs.YtdlaladdeelegaaGreat.Cg
section
open Go Go.Ae
attribute [local simp] ZCl ZF JC JB ZR ZS Zo ZE Jx Jw Jq Zw Zk S_h ZH Zz ZM ZK ZL zt ZO ZN Z7 Zj Jp Z8 JD JE Zt Z0 ZCD ZP ZQ zq zB zz zA zo Z5 zr zO Jy Jz JG JH Z1 Z2 Z3 Z4 ZI Zy JF ZT ZW ZB ZA ZY ZX ZZ ZnB Zi3 V.ones Je Jd Jh Jg Jf Ji Jn Jo Jm ZV Jk Jl Jj zK ZU zL JA Jt Js Ju Jr Jv Ja Jb Jc Z9 max2 cond_true cond_false List.nil_append List.cons_append zc1 zc0 zdR zdP zdQ zcO ze4 ze0 ze1 ze2 ze3 zbT zhc zhr zje zja zjb zjc zjd zjf zdS zdT ziv zdU zd1 zdV zdW zdX zdY zdZ zd0 zd2 zd7 zd3 zd4 zd5 zd6 zd8 zes zd9 zea zek zel zem zen zeo zep zeq zer zeb zec zed zee zef zeg zeh zei zej zet zeu zeA zew zex zey zez zeB zeC zeD zev zeE zeX zeF zeG zeP zeQ zeR zeS zeT zeU zeV zeW zeH zeI zeJ zeK zeL zeM zeN zeO zeY zeZ zfb ze6 ze7 ze8 ze9 zfa zfl zfc zfd zfe zff zfg zfh zfi zfj zfk ze5 zbz zfq zfm zfn zfo zfp zcP zcQ zfB zfr zfs zft zfu zfv zfw zfx zfy zfz zfA zcS zfC zfF zfD zfE zfG zfH zfJ zfK zfI zfL zfQ zfV zfR zfS zfT zfU zf5 zfW zfX zfY zfZ zf0 zf1 zf2 zf3 zf4 zfP zfM zfN zfO zcR zgt zf6 zf7 zgi zgm zgn zgo zgp zgq zgr zgs zf8 zf9 zga zgb zgc zgd zge zgf zgg zgh zgj zgk zgl zcU zgD zgu zgv zgw zgx zgy zgz zgA zgB zgC zcV zgT zgE zgF zgL zgM zgN zgO zgP zgQ zgR zgS zgG zgH zgI zgJ zgK zcW zhb zgU zgV zg3 zg4 zg5 zg6 zg7 zg8 zg9 zha zgW zgX zgY zgZ zg0 zg1 zg2 zcX zhh zhd zhe zhf zhg zcY zhi zhl zhj zhk zhm zhn zhp zhq zho zhs zhx zhC zhy zhz zhA zhB zhD zhT zhE zhF zhL zhM zhN zhO zhP zhQ zhR zhS zhG zhH zhI zhJ zhK zhU zif zhV zhW zh7 zh8 zh9 zia zib zic zid zie zhX zhY zhZ zh0 zh1 zh2 zh3 zh4 zh5 zh6 zig ziu zih zii zil zim zin zio ziq zir zis zit zij zik ziw ziQ zix ziy ziI ziJ ziK ziL ziM ziN ziO ziP ziz ziA ziB ziC ziD ziE ziF ziG ziH ziR zi0 ziS ziT ziU ziV ziW ziX ziY ziZ zi9 zi1 zi2 zi3 zi4 zi5 zi6 zi7 zi8 zhw zht zhu zhv
section
attribute [local simp] ld3 ZC2 ZCB ZEe ZCG ZDP ZEf ZDp ZCN ZCP ZCK ZDo ZDZ ZDN ZCH JR JS sz3 ZCR ZCx ZD8 ZCz ZDr sp2 sp3 JY JX ltN add1 gtN eqN neN gt0 ZDT za0 za1 zac JO
attribute [-simp] zo zr zq zz zA zB
theorem zOL {g g':Nat→Blk} {lo nb nb' y:Nat} {vm:List V} {mem:List (List Nat)} {X:List Nat} (hs:∀(i:Nat) (v:V) (l:List Nat),vm[i]?=some v→mem[i]?=some l→SlR g lo nb v l) (hn:nb≤nb') (hf:Fr X nb g g')
 (hX:∀(i r:Nat),i≠y→(vm[i]?).bind ZCj=some r→r∉X) {v':V} {l':List Nat} (hv:SlR g' lo nb' v' l'):∀(i:Nat) (v:V) (l:List Nat),(vm.set y v')[i]?=some v→(mem.set y l')[i]?=some l→SlR g' lo nb' v l:=by
 intro i v l h1 h2
 rw[List.getElem?_set] at h1 h2
 by_cases hi:y=i
 ·subst hi
  rw[if_pos rfl] at h1 h2
  split at h1
  ·split at h2
   ·cases h1;cases h2;exact hv
   ·cases h2
  ·cases h1
 ·rw[if_neg hi] at h1 h2
  rcases hs i v l h1 h2 with q|q|⟨r,q1,q2,q3,q4⟩
  ·exact .inl q
  ·exact .inr (.inl q)
  ·refine .inr (.inr ⟨r,q1,q2,by omega,?_⟩)
   rw[hf r q3 (hX i r (Ne.symm hi) (by rw[h1,q1];rfl))]
   exact q4
theorem zkn {g g':Nat→Blk} {lo nb nb':Nat} {vm:List V} {mem:List (List Nat)} {X:List Nat} (hs:∀(i:Nat) (v:V) (l:List Nat),vm[i]?=some v→mem[i]?=some l→SlR g lo nb v l) (hn:nb≤nb') (hf:Fr X nb g g')
 (hX:∀(i r:Nat),(vm[i]?).bind ZCj=some r→r∉X):∀(i:Nat) (v:V) (l:List Nat),vm[i]?=some v→mem[i]?=some l→SlR g' lo nb' v l:=by
 intro i v l h1 h2
 rcases hs i v l h1 h2 with q|q|⟨r,q1,q2,q3,q4⟩
 ·exact .inl q
 ·exact .inr (.inl q)
 ·exact .inr (.inr ⟨r,q1,q2,by omega,by rw[hf r q3 (hX i r (by rw[h1,q1];rfl))];exact q4⟩)
section
variable {I:Ids} {lo n m:Nat} {av:V} {A:Cl} {vm vu:List V} {nb nb':Nat} {g g':Nat→Blk}
theorem CL.setcls (h:CL I lo n m av A vm vu nb g) (hn:nb≤nb') (hf:Fr [I.rc] nb g g') {cls:List Nat} (hr:g' I.rc=.row 0 (ints cls)) (hl:cls.length=n):CL I lo n m av {A with cls:=cls} vm vu nb' g':=by
 obtain⟨d_c_rc,d_c_rm,d_c_ru,d_c_rt,d_c_rn,d_c_rw,d_rc_rm,d_rc_ru,d_rc_rt,d_rc_rn,d_rc_rw,d_rm_ru,d_rm_rt,d_rm_rn,d_rm_rw,d_ru_rt,d_ru_rn,d_ru_rw,d_rt_rn,d_rt_rw,d_rn_rw⟩:=Ids.ne h.nd
 have k:∀r∈I.all,r≠I.rc→g' r=g r:=fun r hr h1=> hf r (h.lt r hr).2 (by simp[h1])
 have hX:∀(a:Bool) (i r:Nat),((cond a vm vu)[i]?).bind ZCj=some r→r∉[I.rc]:=fun a i r hr hx=> by
  obtain⟨_,_,hw,q⟩:=h.toks a i r hr
  exact h.rows r (by rw[List.mem_singleton.1 hx];simp[Ids.all]) hw q
 obtain⟨ver,ht⟩:=h.rt
 exact⟨by rw[k _ (by simp[Ids.all]) d_c_rc];exact h.c,hr,by rw[k _ (by simp[Ids.all]) d_rc_rm.symm];exact h.rm,by rw[k _ (by simp[Ids.all]) d_rc_ru.symm];exact h.ru,⟨ver,by rw[k _ (by simp[Ids.all]) d_rc_rt.symm];exact ht⟩,
  by rw[k _ (by simp[Ids.all]) d_rc_rn.symm];exact h.rn,by rw[k _ (by simp[Ids.all]) d_rc_rw.symm];exact h.rw,hl,h.lm,h.lu,h.ln,h.lw,h.km,h.ku,h.keys,h.nd,fun r hr=> ⟨(h.lt r hr).1,by have:=(h.lt r hr).2;omega⟩,
  zkn h.sm hn hf (fun i r hr=> hX true i r hr),zkn h.su hn hf (fun i r hr=> hX false i r hr),h.tk⟩
theorem CL.setmem (h:CL I lo n m av A vm vu nb g) (hn:nb≤nb') {y:Nat} {vy:V} (hy:vm[y]?=some vy) {l:List Nat} (hp:Put g g' lo nb nb' I.rm vm y vy l):∃v',(∀r,ZCj v'=some r→ZCj vy=some r∨nb≤r)∧CL I lo n m av {A with mem:=A.mem.set y l} (vm.set y v') vu nb' g':=by
 obtain⟨d_c_rc,d_c_rm,d_c_ru,d_c_rt,d_c_rn,d_c_rw,d_rc_rm,d_rc_ru,d_rc_rt,d_rc_rn,d_rc_rw,d_rm_ru,d_rm_rt,d_rm_rn,d_rm_rw,d_ru_rt,d_ru_rn,d_ru_rw,d_rt_rn,d_rt_rw,d_rn_rw⟩:=Ids.ne h.nd
 obtain⟨⟨v',hv,hr,ht'⟩,hf⟩:=hp
 have hty:∀r,ZCj vy=some r→((cond true vm vu)[y]?).bind ZCj=some r:=fun r hr=> by
  show(vm[y]?).bind ZCj=_
  rw[hy];exact hr
 have k:∀r∈I.all,r≠I.rm→g' r=g r:=fun r hr h1=> hf r (h.lt r hr).2 (by
  rw[List.mem_cons,not_or]
  refine⟨h1,fun hx=> ?_⟩
  cases ho:ZCj vy with
  |none=> rw[ho] at hx;cases hx
  |some r'=>
   rw[ho] at hx
   obtain rfl:=List.mem_singleton.1 hx
   obtain⟨_,_,hw,q⟩:=h.toks true y r (hty r ho)
   exact h.rows r hr hw q)
 have hX:∀(a:Bool) (i r:Nat),¬(a=true∧i=y)→((cond a vm vu)[i]?).bind ZCj=some r→r∉I.rm::(ZCj vy).toList:=fun a i r hne hr hx=> by
  obtain⟨_,_,hw,q⟩:=h.toks a i r hr
  rcases List.mem_cons.1 hx with rfl|hx
  ·exact h.rows _ (by simp[Ids.all]) hw q
  ·cases ho:ZCj vy with
   |none=> rw[ho] at hx;cases hx
   |some r'=>
    rw[ho] at hx
    obtain rfl:=List.mem_singleton.1 hx
    exact hne (h.tk a true i y r hr (hty r ho))
 obtain⟨ver,ht⟩:=h.rt
 refine⟨v',ht',by rw[k _ (by simp[Ids.all]) d_c_rm];exact h.c,by rw[k _ (by simp[Ids.all]) d_rc_rm];exact h.rc,hr,by rw[k _ (by simp[Ids.all]) d_rm_ru.symm];exact h.ru,⟨ver,by rw[k _ (by simp[Ids.all]) d_rm_rt.symm];exact ht⟩,
  by rw[k _ (by simp[Ids.all]) d_rm_rn.symm];exact h.rn,by rw[k _ (by simp[Ids.all]) d_rm_rw.symm];exact h.rw,h.lc,by rw[List.length_set];exact h.lm,h.lu,h.ln,h.lw,by show(A.mem.set y l).length=n;rw[List.length_set];exact h.km,h.ku,h.keys,h.nd,fun r hr=> ⟨(h.lt r hr).1,by have:=(h.lt r hr).2;omega⟩,
  zOL h.sm hn hf (fun i r hi hr=> hX true i r (fun hh=> hi hh.2) hr) hv,zkn h.su hn hf (fun i r hr=> hX false i r (fun hh=> by cases hh.1) hr),?_⟩
 exact h.tk.set (nb:=nb) (fun a i r hr=> (h.toks a i r hr).2.1) true (old:=vy) hy ht'
theorem CL.setuse (h:CL I lo n m av A vm vu nb g) (hn:nb≤nb') {y:Nat} {vy:V} (hy:vu[y]?=some vy) {l:List Nat} (hp:Put g g' lo nb nb' I.ru vu y vy l):∃v',(∀r,ZCj v'=some r→ZCj vy=some r∨nb≤r)∧CL I lo n m av {A with use:=A.use.set y l} vm (vu.set y v') nb' g':=by
 obtain⟨d_c_rc,d_c_rm,d_c_ru,d_c_rt,d_c_rn,d_c_rw,d_rc_rm,d_rc_ru,d_rc_rt,d_rc_rn,d_rc_rw,d_rm_ru,d_rm_rt,d_rm_rn,d_rm_rw,d_ru_rt,d_ru_rn,d_ru_rw,d_rt_rn,d_rt_rw,d_rn_rw⟩:=Ids.ne h.nd
 obtain⟨⟨v',hv,hr,ht'⟩,hf⟩:=hp
 have hty:∀r,ZCj vy=some r→((cond false vm vu)[y]?).bind ZCj=some r:=fun r hr=> by
  show(vu[y]?).bind ZCj=_
  rw[hy];exact hr
 have k:∀r∈I.all,r≠I.ru→g' r=g r:=fun r hr h1=> hf r (h.lt r hr).2 (by
  rw[List.mem_cons,not_or]
  refine⟨h1,fun hx=> ?_⟩
  cases ho:ZCj vy with
  |none=> rw[ho] at hx;cases hx
  |some r'=>
   rw[ho] at hx
   obtain rfl:=List.mem_singleton.1 hx
   obtain⟨_,_,hw,q⟩:=h.toks false y r (hty r ho)
   exact h.rows r hr hw q)
 have hX:∀(a:Bool) (i r:Nat),¬(a=false∧i=y)→((cond a vm vu)[i]?).bind ZCj=some r→r∉I.ru::(ZCj vy).toList:=fun a i r hne hr hx=> by
  obtain⟨_,_,hw,q⟩:=h.toks a i r hr
  rcases List.mem_cons.1 hx with rfl|hx
  ·exact h.rows _ (by simp[Ids.all]) hw q
  ·cases ho:ZCj vy with
   |none=> rw[ho] at hx;cases hx
   |some r'=>
    rw[ho] at hx
    obtain rfl:=List.mem_singleton.1 hx
    exact hne (h.tk a false i y r hr (hty r ho))
 obtain⟨ver,ht⟩:=h.rt
 refine⟨v',ht',by rw[k _ (by simp[Ids.all]) d_c_ru];exact h.c,by rw[k _ (by simp[Ids.all]) d_rc_ru];exact h.rc,by rw[k _ (by simp[Ids.all]) d_rm_ru];exact h.rm,hr,⟨ver,by rw[k _ (by simp[Ids.all]) d_ru_rt.symm];exact ht⟩,
  by rw[k _ (by simp[Ids.all]) d_ru_rn.symm];exact h.rn,by rw[k _ (by simp[Ids.all]) d_ru_rw.symm];exact h.rw,h.lc,h.lm,by rw[List.length_set];exact h.lu,h.ln,h.lw,h.km,by show(A.use.set y l).length=n;rw[List.length_set];exact h.ku,h.keys,h.nd,fun r hr=> ⟨(h.lt r hr).1,by have:=(h.lt r hr).2;omega⟩,
  zkn h.sm hn hf (fun i r hr=> hX true i r (fun hh=> by cases hh.1) hr),zOL h.su hn hf (fun i r hi hr=> hX false i r (fun hh=> hi hh.2) hr) hv,?_⟩
 exact h.tk.set (nb:=nb) (fun a i r hr=> (h.toks a i r hr).2.1) false (old:=vy) hy ht'
theorem CL.settab (h:CL I lo n m av A vm vu nb g) (hn:nb≤nb') {X:List Nat} (hf:Fr (I.rt::X) nb g g') (hXr:∀r∈X,r∉I.all) (hXt:∀(a:Bool) (i r:Nat),((cond a vm vu)[i]?).bind ZCj=some r→r∉X) {tab:ZDx} (ht:∃ver,g' I.rt=.map (ZmO tab) ver) (hk:(tab.map (·.1)).Nodup):CL I lo n m av {A with tab:=tab} vm vu nb' g':=by
 obtain⟨d_c_rc,d_c_rm,d_c_ru,d_c_rt,d_c_rn,d_c_rw,d_rc_rm,d_rc_ru,d_rc_rt,d_rc_rn,d_rc_rw,d_rm_ru,d_rm_rt,d_rm_rn,d_rm_rw,d_ru_rt,d_ru_rn,d_ru_rw,d_rt_rn,d_rt_rw,d_rn_rw⟩:=Ids.ne h.nd
 have k:∀r∈I.all,r≠I.rt→g' r=g r:=fun r hr h1=> hf r (h.lt r hr).2 (by
  rw[List.mem_cons,not_or]
  exact⟨h1,fun hx=> hXr r hx hr⟩)
 have hX:∀(a:Bool) (i r:Nat),((cond a vm vu)[i]?).bind ZCj=some r→r∉I.rt::X:=fun a i r hr hx=> by
  obtain⟨_,_,hw,q⟩:=h.toks a i r hr
  rcases List.mem_cons.1 hx with rfl|hx
  ·exact h.rows _ (by simp[Ids.all]) hw q
  ·exact hXt a i r hr hx
 exact⟨by rw[k _ (by simp[Ids.all]) d_c_rt];exact h.c,by rw[k _ (by simp[Ids.all]) d_rc_rt];exact h.rc,by rw[k _ (by simp[Ids.all]) d_rm_rt];exact h.rm,by rw[k _ (by simp[Ids.all]) d_ru_rt];exact h.ru,ht,
  by rw[k _ (by simp[Ids.all]) d_rt_rn.symm];exact h.rn,by rw[k _ (by simp[Ids.all]) d_rt_rw.symm];exact h.rw,h.lc,h.lm,h.lu,h.ln,h.lw,h.km,h.ku,hk,h.nd,fun r hr=> ⟨(h.lt r hr).1,by have:=(h.lt r hr).2;omega⟩,
  zkn h.sm hn hf (fun i r hr=> hX true i r hr),zkn h.su hn hf (fun i r hr=> hX false i r hr),h.tk⟩
end
end
section
attribute [local simp] ld3 ZC2 ZCB ZEe ZCG ZDP ZEf ZDp ZCN ZCP ZCK ZDo ZDZ ZDN ZCH JR JS sz3 ZCR ZCx ZD8 ZCz ZDr sp2 sp3 JY JX ltN add1 gtN eqN neN gt0 ZDT za0 za1 zac JO
attribute [-simp] zo zr zq zz zA zB
def ZFq (v:V) (vm vu:List V):Prop:=∀(a:Bool) (i r:Nat),((cond a vm vu)[i]?).bind ZCj=some r→ZCj v≠some r
theorem ZFq.set {v:V} {vm vu:List V} (h:ZFq v vm vu) {nb:Nat} (hb:∀r,ZCj v=some r→r < nb) (a:Bool) {y:Nat} {old v':V} (ho:(cond a vm vu)[y]?=some old) (hv:∀r,ZCj v'=some r→ZCj old=some r∨nb≤r):
 ZFq v (cond a (vm.set y v') vm) (cond a vu (vu.set y v')):=by
 intro b i r hh
 have sel:cond b (cond a (vm.set y v') vm) (cond a vu (vu.set y v'))=if b=a then (cond b vm vu).set y v' else cond b vm vu:=by cases a <;> cases b <;> rfl
 rw[sel] at hh
 by_cases hba:b=a
 ·subst hba
  rw[if_pos rfl,List.getElem?_set] at hh
  by_cases hiy:y=i
  ·subst hiy
   rw[if_pos rfl] at hh
   split at hh
   ·intro hp
    rcases hv r hh with q|q
    ·exact h b y r (by rw[ho];exact q) hp
    ·have:=hb r hp;omega
   ·cases hh
  ·rw[if_neg hiy] at hh
   exact h b i r hh
 ·rw[if_neg hba] at hh
  exact h b i r hh
theorem PdR.lt {g:Nat→Blk} {lo nb:Nat} {v:V} {p:List Zm0} (h:PdR g lo nb v p) {r:Nat} (hr:ZCj v=some r):lo≤r∧r < nb∧∃hw,g r=.tok hw:=by
 rcases h with rfl|⟨r',e,rfl,h1,h2,h3⟩
 ·cases hr
 ·cases hr;exact⟨h1,h2,_,h3⟩
theorem PdR.keep' {X:List Nat} {nb nb' lo:Nat} {g g':Nat→Blk} {v:V} {p:List Zm0} (h:PdR g lo nb v p) (hn:nb≤nb') (hf:Fr X nb g g') (hX:∀r,ZCj v=some r→r∉X):PdR g' lo nb' v p:=by
 rcases h with h|⟨r,e,h1,h2,h3,h4⟩
 ·exact .inl h
 ·exact .inr ⟨r,e,h1,h2,by omega,by rw[hf r h3 (hX r (by rw[h1];rfl))];exact h4⟩
section
variable {I:Ids} {lo n m:Nat} {av:V} {A:Cl} {vm vu:List V} {nb:Nat} {g:Nat→Blk}
theorem CL.setnil (h:CL I lo n m av A vm vu nb g) {g':Nat→Blk} {x:Nat} (hx:x < n) (hf:Fr [I.rm,I.ru] nb g g') (hm:g' I.rm=.row 0 (vm.set x .nils)) (hu:g' I.ru=.row 0 (vu.set x .nils)):CL I lo n m av {A with mem:=A.mem.set x [],use:=A.use.set x []} (vm.set x .nils) (vu.set x .nils) nb g':=by
 have hne:I.rm≠I.ru:=(Ids.ne h.nd).2.2.2.2.2.2.2.2.2.2.2.1
 have k1:x < vm.length:=by rw[h.lm];exact hx
 have k2:x < vu.length:=by rw[h.lu];exact hx
 have e1:vm[x]?=some vm[x]:=List.getElem?_eq_getElem k1
 have e2:vu[x]?=some vu[x]:=List.getElem?_eq_getElem k2
 let g1:Nat→Blk:=fun r=> if r=I.rm then g' r else g r
 obtain⟨v',_,h1⟩:=h.setmem (nb':=nb) (g':=g1) (Nat.le_refl _) (y:=x) e1 (l:=[]) ⟨⟨.nils,.inl ⟨rfl,rfl⟩,by show(if I.rm=I.rm then _ else _)=_;rw[if_pos rfl];exact hm,fun r hr=> by cases hr⟩,fun r hr hx=> by
  rw[List.mem_cons,not_or] at hx
  exact if_neg hx.1⟩
 have hv':vm.set x v'=vm.set x .nils:=by
  have:=h1.rm
  have h2:g1 I.rm=.row 0 (vm.set x .nils):=by show(if I.rm=I.rm then _ else _)=_;rw[if_pos rfl];exact hm
  rw[h2] at this
  exact((Blk.row.injEq _ _ _ _ ▸ this).2).symm
 rw[hv'] at h1
 obtain⟨v2,_,h3⟩:=h1.setuse (nb':=nb) (g':=g') (Nat.le_refl _) (y:=x) e2 (l:=[]) ⟨⟨.nils,.inl ⟨rfl,rfl⟩,hu,fun r hr=> by cases hr⟩,fun r hr hx=> by
  rw[List.mem_cons,not_or] at hx
  show g' r=if r=I.rm then g' r else g r
  by_cases hrm:r=I.rm
  ·rw[if_pos hrm]
  ·rw[if_neg hrm]
   exact hf r hr (by simp only[List.mem_cons,List.not_mem_nil,or_false,not_or];exact⟨hrm,hx.1⟩)⟩
 have hv2:vu.set x v2=vu.set x .nils:=by
  have:=h3.ru
  rw[hu] at this
  exact((Blk.row.injEq _ _ _ _ ▸ this).2).symm
 rw[hv2] at h3
 exact h3
end
structure St1 (I:Ids) (lo n m:Nat) (av:V) (A:Cl) (p:List Zm0) (f:Nat→V) (nb:Nat) (g:Nat→Blk):Prop where
 f0:f 0=.ptr I.c 0
 ex:∃vm vu,CL I lo n m av A vm vu nb g∧PdR g lo nb (f 4) p∧ZFq (f 4) vm vu
theorem CL.lo {I:Ids} {lo n m:Nat} {av:V} {A:Cl} {vm vu:List V} {nb:Nat} {g:Nat→Blk} (h:CL I lo n m av A vm vu nb g):lo≤nb:=by have:=h.lt I.c (by simp[Ids.all]);omega
set_option maxHeartbeats 2000000 in
theorem zEx {I:Ids} {lo n m:Nat} {apps:List Key} {av:V} (hA:apps≠[]→∃o,av=.vs (prs apps) apps.length 2 o) (hn:n < 100000) (hmn:m≤n) (hal:apps.length=n - m) {fu x y:Nat} {s:Zm0} {A A':Cl} {p p':List Zm0} (hj:ZEX m apps fu x y s A p=some (A',p'))
 {f:Nat→V} {nb ps:Nat} {g:Nat→Blk} {d:List Nat} (h:St1 I lo n m av A p f nb g) (f5:f 5=.ptr ps 0) (f6:f 6=nv x) (f7:f 7=nv y) (hxy:x≠y) (hps:ps < nb) (gps:g ps=.row 0 (tri s)):
 ZhY 224 (fun e f' nb' g'=> e=.normal∧nb≤nb'∧St1 I lo n m av A' p' f' nb' g'∧∀r,r < lo→g' r=g r) (C 49 zkd (S 224 f [] (mkH nb g d))):=by
 obtain⟨f0,vm,vu,hc,hp,hpt⟩:=h
 unfold ZEX at hj
 split at hj
 ·cases hj
 ·rename_i A1 hl
  split at hj
  ·rename_i mx my ux uy e1 e2 e3 e4
   split at hj
   ·rename_i hlen
    split at hj
    ·rename_i cls hcls
     have hlt0:∀r∈I.all,r < nb:=fun r hr=> (hc.lt r hr).2
     rw[zbz]
     refine ZhY.seq (P:=fun f' nb' g'=> nb≤nb'∧(∀t,t < 71∨73 < t→f' t=f t)∧CL I lo n m av A1 vm vu nb' g'∧Fr [I.rn,I.rw] nb g g') ?_ ?_
     ·obtain⟨rv,nb1,g1,d1,hcall,q1,q2,q3⟩:=zW9 hc hl (d:=d)
      have hcall:ZCi Tryz.prog hs ks 84 [V.ptr I.c 0,.agg [nv s.1,nv s.2.1,.int .i64 s.2.2]] (mkH nb g d)=some [(.ret rv,mkH nb1 g1 d1)]:=hcall
      simp(disch:=first|assumption|decide|omega)[f0,f5,gps,tri,hcall]
      refine ZhY.mk ?_
      refine⟨rfl,q1,fun t ht=> ?_,q2,q3⟩
      simp only[zt];repeat (rw[if_neg (by omega)])
     ·rintro f1 nb1 g1 d1 ⟨b1,t1,c1,r1⟩
      have low1:∀r,r < lo→g1 r=g r:=fun r hr=> r1 r (by have:=hc.lo;omega) (fun hx=> by
       have:=hc.lt r (by simp only[Ids.all,List.mem_cons,List.not_mem_nil,or_false] at hx⊢;rcases hx with rfl|rfl <;> simp)
       omega)
      have hp1:PdR g1 lo nb1 (f 4) p:=hp.keep b1 r1 (fun r hr=> hc.rows r (by simp only[Ids.all,List.mem_cons,List.not_mem_nil,or_false] at hr⊢;rcases hr with rfl|rfl <;> simp))
      have lt1:∀r∈I.all,r < nb1:=fun r hr=> (c1.lt r hr).2
      have hxn:x < n:=by rw[←c1.km];exact(List.getElem?_eq_some_iff.1 e1).1
      have hyn:y < n:=by rw[←c1.km];exact(List.getElem?_eq_some_iff.1 e2).1
      have hxn':x≤n:=Nat.le_of_lt hxn
      have kx:x < vm.length:=by rw[c1.lm];exact hxn
      have ky:y < vm.length:=by rw[c1.lm];exact hyn
      have kx':x < vu.length:=by rw[c1.lu];exact hxn
      have ky':y < vu.length:=by rw[c1.lu];exact hyn
      have v1:vm[x]?=some vm[x]:=List.getElem?_eq_getElem kx
      have v2:vm[y]?=some vm[y]:=List.getElem?_eq_getElem ky
      have v3:vu[x]?=some vu[x]:=List.getElem?_eq_getElem kx'
      have v4:vu[y]?=some vu[y]:=List.getElem?_eq_getElem ky'
      have s1:=c1.sm x _ _ v1 e1
      have s2:=c1.sm y _ _ v2 e2
      have s3:=c1.su x _ _ v3 e3
      have s4:=c1.su y _ _ v4 e4
      generalize vm[x]=wx at v1 s1
      generalize vm[y]=wy at v2 s2
      generalize vu[x]=zx at v3 s3
      generalize vu[y]=zy at v4 s4
      rw[zcP]
      refine ZhY.seq (P:=fun f' nb' g'=> nb'=nb1∧f' 0=.ptr I.c 0∧f' 4=f 4∧f' 6=nv x∧f' 7=nv y∧Fr [I.rc] nb1 g1 g'∧g' I.rc=.row 0 (ints cls)∧cls.length=n) ?_ ?_
      ·rw[zcQ]
       have hlen27:=ZDF s1.slv
       have hd1:=za7 v1
       have cr:=c1.rm
       have cc:g1 I.c=.row 0 (clc I n m av):=c1.c
       have l1:=lt1 I.c (by simp[Ids.all])
       have l2:=lt1 I.rm (by simp[Ids.all])
       refine ZhY.seq (P:=fun f' nb' g'=> nb'=nb1∧f' 0=.ptr I.c 0∧f' 4=f 4∧f' 6=nv x∧f' 7=nv y∧f' 80=wx∧f' 81=nv mx.length∧f' 82=nv 0∧g'=g1) ?_ ?_
       ·have g0:=t1 0 (by omega);have g4:=t1 4 (by omega);have g6:=t1 6 (by omega);have g7:=t1 7 (by omega)
        rw[f0] at g0
        rw[f6] at g6
        rw[f7] at g7
        have lmm:=c1.lm
        simp(disch:=first|assumption|decide|omega)[g0,g6,cc,cr,clc,lmm,hxn',hd1,hlen27]
        refine ZhY.mk ?_
        refine⟨rfl,rfl,by simp[g0],by simp[g4],by simp[g6],by simp[g7],by simp,by simp,by simp,rfl⟩
       ·rintro f2 nb2 g2 d2 ⟨hb,a0,a4,a6,a7,a80,a81,a82,hg⟩
        have hb:=hb.symm
        have hg:=hg.symm
        subst hb hg
        rw[zcS]
        have hox:∃o,mx≠[]→f2 80=.vs (ints mx) mx.length 1 o:=by
         rcases s1.slv with ⟨_,hh⟩|⟨o,hh⟩
         ·exact⟨.tight,fun h=> absurd hh h⟩
         ·exact⟨o,fun _=> by rw[a80,hh]⟩
        obtain⟨ox,hox⟩:=hox
        refine(set_loop I n m y av mx ox (by have:=hlen.1;rw[List.length_append] at this;omega) nb1 (lt1 _ (by simp[Ids.all])) (lt1 _ (by simp[Ids.all])) (Ids.ne c1.nd).1 mx.length 0 A1.cls cls f2 g1 d2 rfl (Nat.zero_le _) hcls a0 a7 hox a81 a82 cc c1.rc c1.lc).block ?_ ?_
        ·rintro f3 nb3 g3 ⟨_,hb,q1,q2,q3,q4⟩
         exact⟨rfl,hb,(q1 0 (by decide)).trans a0,(q1 4 (by decide)).trans a4,(q1 6 (by decide)).trans a6,(q1 7 (by decide)).trans a7,q2,q3,q4⟩
        ·rintro e f3 nb3 g3 hne ⟨rfl,_⟩;exact absurd rfl hne
      ·rintro f2 nb2 g2 d2 ⟨hb,a0,a4,a6,a7,r2,q2,q2l⟩
       have hb:=hb.symm
       subst hb
       have c2:=c1.setcls (Nat.le_refl _) r2 q2 q2l
       have low2:∀r,r < lo→g2 r=g1 r:=fun r hr=> r2 r (by have:=c1.lo;omega) (fun hx=> by
        have:=c1.lt r (by rw[List.mem_singleton.1 hx];simp[Ids.all]);omega)
       have hp2:PdR g2 lo nb1 (f 4) p:=hp1.keep (Nat.le_refl _) r2 (fun r hr=> c1.rows r (by rw[List.mem_singleton.1 hr];simp[Ids.all]))
       have s2':=c2.sm y _ _ v2 e2
       rw[zcR]
       refine ZhY.seq (zXH a0 a6 a7 c2.c c2.rm c2.lm v1 v2 (ZE8 s2' s1.slv hlen.1) s2'.cell c2.nd c2.lo lt1) ?_
       rintro f3 nb3 g3 d3 ⟨b3,t3,p3⟩
       have r3:=p3.fr
       obtain⟨w',tw',c3⟩:=c2.setmem b3 v2 p3
       have pt3:ZFq (f 4) (vm.set y w') vu:=hpt.set (nb:=nb1) (fun r hr=> (hp1.lt hr).2.1) true v2 tw'
       have hp3:PdR g3 lo nb3 (f 4) p:=hp2.keep' b3 r3 (fun r hr hx=> by
        obtain⟨_,_,hw,q⟩:=hp2.lt hr
        rcases List.mem_cons.1 hx with rfl|hx
        ·exact c2.rows _ (by simp[Ids.all]) hw q
        ·cases ho:ZCj wy with
         |none=> rw[ho] at hx;cases hx
         |some r'=>
          rw[ho] at hx
          obtain rfl:=List.mem_singleton.1 hx
          exact hpt true y r (by show(vm[y]?).bind ZCj=_;rw[v2];exact ho) hr)
       have low3:∀r,r < lo→g3 r=g2 r:=fun r hr=> r3 r (by have:=c2.lo;omega) (fun hx=> by
        rcases List.mem_cons.1 hx with rfl|hx
        ·have:=c2.lt I.rm (by simp[Ids.all]);omega
        ·cases ho:ZCj wy with
         |none=> rw[ho] at hx;cases hx
         |some r'=>
          rw[ho] at hx
          obtain rfl:=List.mem_singleton.1 hx
          have:=(s2'.lt ho).1;omega)
       have lt3:∀r∈I.all,r < nb3:=fun r hr=> (c3.lt r hr).2
       have u0:=(t3 0 (by omega)).trans a0
       have u4:=(t3 4 (by omega)).trans a4
       have u6:=(t3 6 (by omega)).trans a6
       have u7:=(t3 7 (by omega)).trans a7
       rw[zcU]
       refine ZhY.seq (zXS u0 u6 c3.c c3.ru c3.lu v3 lt3) ?_
       rintro f4 nb4 g4 d4 ⟨hb,t4,x10,hg⟩
       have hb:=hb.symm
       have hg:=hg.symm
       subst hb hg
       rw[zcV]
       refine ZhY.seq (zX1 vu ((t4 0 (by omega)).trans u0) ((t4 6 (by omega)).trans u6) c3.c c3.rm c3.ru c3.lm c3.lu hxn c3.nd lt3) ?_
       rintro f5' nb5 g5 d5 ⟨hb,t5,m5,u5,r5⟩
       have hb:=hb.symm
       subst hb
       have c5:=c3.setnil hxn r5 m5 u5
       have hp5:PdR g5 lo nb3 (f 4) p:=hp3.keep (Nat.le_refl _) r5 (fun r hr=> c3.rows r (by simp only[Ids.all,List.mem_cons,List.not_mem_nil,or_false] at hr⊢;rcases hr with rfl|rfl <;> simp))
       have low5:∀r,r < lo→g5 r=g3 r:=fun r hr=> r5 r (by have:=c3.lo;omega) (fun hx=> by
        have:=c3.lt r (by simp only[Ids.all,List.mem_cons,List.not_mem_nil,or_false] at hx⊢;rcases hx with rfl|rfl <;> simp)
        omega)
       have kx3:(vm.set y w')[x]?=some wx:=by rw[List.getElem?_set_ne (Ne.symm hxy)];exact v1
       have pt5a:ZFq (f 4) ((vm.set y w').set x .nils) vu:=pt3.set (nb:=nb3) (fun r hr=> (hp3.lt hr).2.1) true kx3 (v':=.nils) (fun r hr=> by cases hr)
       have pt5:ZFq (f 4) ((vm.set y w').set x .nils) (vu.set x .nils):=pt5a.set (nb:=nb3) (fun r hr=> (hp3.lt hr).2.1) false v3 (v':=.nils) (fun r hr=> by cases hr)
       have v4':(vu.set x .nils)[y]?=some zy:=by rw[List.getElem?_set_ne hxy];exact v4
       have e4':(A1.use.set x [])[y]?=some uy:=by rw[List.getElem?_set_ne hxy];exact e4
       have s4':=c5.su y _ _ v4' e4'
       have w0:=(t5 0 (by omega)).trans ((t4 0 (by omega)).trans u0)
       have w4:=(t5 4 (by omega)).trans ((t4 4 (by omega)).trans u4)
       have w7:=(t5 7 (by omega)).trans ((t4 7 (by omega)).trans u7)
       have w10:=(t5 10 (by omega)).trans x10
       rw[zcW]
       refine ZhY.seq (zZl w0 w10 w7 c5.c c5.ru c5.lu v4' (ZE8 s4' s3.slv hlen.2) s4'.cell c5.nd c5.lo lt3) ?_
       rintro f6' nb6 g6 d6 ⟨b6,t6,p6⟩
       have r6:=p6.fr
       obtain⟨z',tz',c6⟩:=c5.setuse b6 v4' p6
       have pt6:=pt5.set (nb:=nb3) (fun r hr=> (hp5.lt hr).2.1) false v4' tz'
       have hp6:PdR g6 lo nb6 (f 4) p:=hp5.keep' b6 r6 (fun r hr hx=> by
        obtain⟨_,_,hw,q⟩:=hp5.lt hr
        rcases List.mem_cons.1 hx with rfl|hx
        ·exact c5.rows _ (by simp[Ids.all]) hw q
        ·cases ho:ZCj zy with
         |none=> rw[ho] at hx;cases hx
         |some r'=>
          rw[ho] at hx
          obtain rfl:=List.mem_singleton.1 hx
          exact pt5 false y r (by show((vu.set x .nils)[y]?).bind ZCj=_;rw[v4'];exact ho) hr)
       have low6:∀r,r < lo→g6 r=g5 r:=fun r hr=> r6 r (by have:=c5.lo;omega) (fun hx=> by
        rcases List.mem_cons.1 hx with rfl|hx
        ·have:=c5.lt I.ru (by simp[Ids.all]);omega
        ·cases ho:ZCj zy with
         |none=> rw[ho] at hx;cases hx
         |some r'=>
          rw[ho] at hx
          obtain rfl:=List.mem_singleton.1 hx
          have:=(s4'.lt ho).1;omega)
       have lt6:∀r∈I.all,r < nb6:=fun r hr=> (c6.lt r hr).2
       rw[zcX]
       have hlen28:=ZDF s3.slv
       refine ZhY.seq (P:=fun f' nb' g'=> nb'=nb6∧f' 0=.ptr I.c 0∧f' 4=f 4∧f' 149=zx∧f' 150=nv ux.length∧f' 151=nv 0∧g'=g6) ?_ ?_
       ·have y0:=(t6 0 (by omega)).trans w0
        have y4:=(t6 4 (by omega)).trans w4
        have y10:=(t6 10 (by omega)).trans w10
        simp(disch:=first|assumption|decide|omega)[y10,hlen28]
        refine ZhY.mk ?_
        refine⟨rfl,rfl,by simp[y0],by simp[y4],by simp,by simp,by simp,rfl⟩
       ·rintro f7' nb7 g7 d7 ⟨hb,z0,z4,z149,z150,z151,hg⟩
        have hb:=hb.symm
        have hg:=hg.symm
        subst hb hg
        rw[zcY]
        have hox:∃o,ux≠[]→f7' 149=.vs (ints ux) ux.length 1 o:=by
         rcases s3.slv with ⟨_,hh⟩|⟨o,hh⟩
         ·exact⟨.tight,fun h=> absurd hh h⟩
         ·exact⟨o,fun _=> by rw[z149,hh]⟩
        obtain⟨ox,hox⟩:=hox
        refine(zXT I lo n m apps av hA ux ox (by have:=hlen.2;rw[List.length_append] at this;omega) hn ux.length 0 _ A' p p' (f 4) f7' nb6 g6 d7 rfl (Nat.zero_le _) hj z0 z4 hox z150 z151 hp6 c6.lo lt6 c6.nd hmn hal c6.c c6.rc c6.lc c6.rt c6.keys).block ?_ ?_
        ·rintro f8 nb8 g8 ⟨_,k1,k2,k3,k4,k5,k6,k7,k8⟩
         have hXr:∀r∈(ZCj (f 4)).toList,ZCj (f 4)=some r:=fun r hx=> by
          cases ho:ZCj (f 4) with
          |none=> rw[ho] at hx;cases hx
          |some r'=> rw[ho] at hx;rw[List.mem_singleton.1 hx]
         have c8:=c6.settab k1 k4 (fun r hx hI=> by
          obtain⟨_,_,hw,q⟩:=hp6.lt (hXr r hx)
          exact c6.rows r hI hw q) (fun a i r hr hx=> pt6 a i r hr (hXr r hx)) k6 k7
         rw[←k8] at c8
         refine⟨rfl,by omega,⟨k2,_,_,c8,k3,fun a i r hr hh=> ?_⟩,fun r hr=> ?_⟩
         ·rcases k5 r hh with q|q
          ·exact pt6 a i r hr q
          ·have:=(c6.toks a i r hr).2.1;omega
         ·rw[k4 r (by have:=c6.lo;omega) (fun hx=> by
           rcases List.mem_cons.1 hx with rfl|hx
           ·have:=c6.lt I.rt (by simp[Ids.all]);omega
           ·have:=(hp6.lt (hXr r hx)).1;omega),low6 r hr,low5 r hr,low3 r hr,low2 r hr,low1 r hr]
        ·rintro e f8 nb8 g8 hne ⟨rfl,_⟩;exact absurd rfl hne
    ·cases hj
   ·cases hj
  ·cases hj
end
section
attribute [local simp] ld3 ZC2 ZCB ZEe ZCG ZDP ZEf ZDp ZCN ZCP ZCK ZDo ZDZ ZDN ZCH JR JS sz3 ZCR ZCx ZD8 ZCz ZDr sp2 sp3 JY JX ltN add1 gtN eqN neN gt0 ZDT za0 za1 zac JO
attribute [-simp] zo zr zq zz zA zB zbz
theorem ZFE {a b c x:V}:splice [a,b,c] [x] 0=some [x,b,c]:=rfl
theorem ZFF {a b c x:V}:splice [a,b,c] [x] 1=some [a,x,c]:=rfl
theorem zdg {cs:List V} {k sz:Nat} {o:Own}:indexAddr Tryz.prog 80 (.vs cs (k+1) sz o) (.int .i64 0)=some (.iptr cs):=zRh (by omega)
attribute [local simp] ZFE ZFF zdg
theorem ZGU {cs:List V} {k sz:Nat} {o:Own} (get:Nat→Blk) (nid:Nat):ZmL Tryz.prog false get nid .len [80] [.vs cs k sz o]=some {v:=nv k}:=by
 simp[ZmL,ZDQ,ZE5]
theorem ZJ7 {s:Zm0} {p:List Zm0} {o:Own} (ho:o≠.lock):ZE4 Tryz.prog 80 (.vs (ZCq (s::p)) (p.length+1) 3 o) (some (.int .i64 1)) none none=some (.vs (ZCq p) p.length 3 o):=by
 have h1:ZD7 (p.length+1) (p.length+1) (some (.int .i64 1)) none none=some (1,p.length+1,p.length+1):=by
  have e:(0:Int)≤1∧(1:Int)≤((p.length+1:Nat):Int):=⟨by omega,by omega⟩
  simp only[ZD7,bd1,asI,Option.isSome_none,Bool.false_eq_true,if_false]
  rw[if_pos e];rfl
 have h2:((ZCq (s::p)).drop (1 * 3)).take ((p.length+1 - 1) * 3)=ZCq p:=by
  show(((tri s++ZCq p).drop 3)).take _=_
  have:(tri s++ZCq p).drop 3=ZCq p:=rfl
  rw[this,List.take_of_length_le]
  rw[zkr];omega
 simp only[ZE4,ZE5,ZCR,ZHH,h1]
 rw[if_pos ⟨trivial,trivial⟩,h2]
 cases o <;> simp at ho⊢
section
variable {I:Ids} {lo n m:Nat} {av:V} {A:Cl} {vm vu:List V} {nb nb':Nat} {g g':Nat→Blk}
theorem CL.grow (h:CL I lo n m av A vm vu nb g) (hn:nb≤nb') (hf:Fr [] nb g g'):CL I lo n m av A vm vu nb' g':=by
 obtain⟨ver,ht⟩:=h.rt
 exact h.settab hn (X:=[]) (fun r hr _=> hf r hr (by simp)) (fun r hr=> by cases hr) (fun a i r _ hx=> by cases hx) ⟨ver,by rw[hf _ (h.lt _ (by simp[Ids.all])).2 (by simp)];exact ht⟩ h.keys
end
set_option maxHeartbeats 2000000 in
theorem zYL {I:Ids} {lo n m:Nat} {apps:List Key} {av:V} (hA:apps≠[]→∃o,av=.vs (prs apps) apps.length 2 o) (hn:n < 100000) (hmn:m≤n) (hal:apps.length=n - m):∀(fu:Nat) (A A':Cl) (p:List Zm0) (f:Nat→V) (nb:Nat) (g:Nat→Blk) (d:List Nat),ZEj m apps fu A p=some A'→St1 I lo n m av A p f nb g→
 ZhY 224 (fun e f' nb' g'=> e=.exit 0∧nb≤nb'∧St1 I lo n m av A' [] f' nb' g'∧∀r,r < lo→g' r=g r) (C 49 zkf (S 224 f [] (mkH nb g d))):=by
 intro fu
 induction fu with
 |zero=> intro A A' p f nb g d h;cases h
 |succ fu ih=>
  intro A A' p f nb g d h hs
  have hs0:=hs
  obtain⟨f0,vm,vu,hc,hp,hpt⟩:=hs
  obtain⟨own,hv,ho⟩:∃own,f 4=.vs (ZCq p) p.length 3 own∧own≠.lock:=by
   rcases hp with hv|⟨r,e,hv,_⟩
   ·exact⟨_,hv,by simp⟩
   ·exact⟨_,hv,by simp⟩
  rw[zTM]
  cases p with
  |nil=>
   obtain rfl:A=A':=Option.some.inj h
   have hgt:ZmK .gtr .i64 0 .i64 0=some (.bool false):=rfl
   simp(disch:=first|assumption|decide|omega)[hv,ZGU,hgt]
   refine ZhY.mk ?_
   exact⟨rfl,Nat.le_refl _,⟨by simp[f0],vm,vu,hc,by simpa using hp,by simpa using hpt⟩,fun _ _=> rfl⟩
  |cons s p=>
   unfold ZEj at h
   split at h
   ·rename_i x y hx hy
    have hcc:g I.c=.row 0 (clc I n m av):=hc.c
    have hrc:=hc.rc
    have hrm:=hc.rm
    have hlc:=hc.lc
    have hlm:=hc.lm
    have l1:=(hc.lt I.c (by simp[Ids.all])).2
    have l2:=(hc.lt I.rc (by simp[Ids.all])).2
    have l3:=(hc.lt I.rm (by simp[Ids.all])).2
    have h1:=Zp hx
    have h2:=Zp hy
    have hp1:s.1 < n:=by rw[←hlc];exact(List.getElem?_eq_some_iff.1 hx).1
    have hp2:s.2.1 < n:=by rw[←hlc];exact(List.getElem?_eq_some_iff.1 hy).1
    have hp1':s.1≤n:=Nat.le_of_lt hp1
    have hp2':s.2.1≤n:=Nat.le_of_lt hp2
    have hsl:=ZJ7 (s:=s) (p:=p) ho
    have htr:(ZCq (s::p)).take 3=[nv s.1,nv s.2.1,.int .i64 s.2.2]:=rfl
    have hgt:ZmK .gtr .i64 ((p.length:Int)+1) .i64 0=some (.bool true):=by rw[zr];simp
    have htl:(3:Nat)≤(ZCq (s::p)).length:=by rw[zkr];simp only[List.length_cons];omega
    have hgrow:∀{g':Nat→Blk} {nb':Nat},nb≤nb'→(∀r,r < nb→g' r=g r)→∀{f':Nat→V},f' 0=.ptr I.c 0→f' 4=.vs (ZCq p) p.length 3 own→St1 I lo n m av A p f' nb' g':=fun {g' nb'} hn' hf {f'} e0 e4=> by
     have hp':PdR g' lo nb' (f' 4) p:=by
      rw[hv] at hp
      rw[e4]
      rcases hp with hq|⟨r,e,hq,q1,q2,q3⟩
      ·cases hq;exact .inl rfl
      ·cases hq;exact .inr ⟨r,e,rfl,q1,by omega,by rw[hf r q2];exact q3⟩
     refine⟨e0,vm,vu,hc.grow hn' (fun r hr _=> hf r hr),hp',?_⟩
     intro a i r hr hh
     refine hpt a i r hr ?_
     rw[hv];rw[e4] at hh
     cases own <;> simpa[ZCj] using hh
    split at h
    ·rename_i hxy
     subst hxy
     simp(disch:=first|assumption|decide|omega)[f0,hv,ZGU,hgt,htr,htl,hsl,hcc,hrc,clc,h1,h2,Zu,hlc,hp1',hp2']
     refine(ih A A' p _ (nb+1) _ _ h (hgrow (by omega) ?_ ?_ ?_)).weak ?_
     ·intro r hr
      have x1:¬r=nb:=by omega
      simp only[atB,at1,if_neg x1]
     ·simp[f0]
     ·simp
     ·rintro e f' nb' g' ⟨rfl,q1,q2,q3⟩
      refine⟨rfl,by omega,q2,fun r hr=> ?_⟩
      have:=hc.lo
      have x1:¬r=nb:=by omega
      rw[q3 r hr]
      simp only[atB,at1,if_neg x1]
    ·rename_i hxy
     split at h
     ·rename_i mx my e1 e2
      have hxn:x < n:=by rw[←hc.km];exact(List.getElem?_eq_some_iff.1 e1).1
      have hyn:y < n:=by rw[←hc.km];exact(List.getElem?_eq_some_iff.1 e2).1
      have hxn':x≤n:=Nat.le_of_lt hxn
      have hyn':y≤n:=Nat.le_of_lt hyn
      have kx:x < vm.length:=by rw[hlm];exact hxn
      have ky:y < vm.length:=by rw[hlm];exact hyn
      have v1:vm[x]?=some vm[x]:=List.getElem?_eq_getElem kx
      have v2:vm[y]?=some vm[y]:=List.getElem?_eq_getElem ky
      have s1:=hc.sm x _ _ v1 e1
      have s2:=hc.sm y _ _ v2 e2
      have w1:=za7 v1
      have w2:=za7 v2
      have z1:=ZDF s1.slv
      have z2:=ZDF s2.slv
      by_cases hle:my.length < mx.length
      ·rw[if_pos hle] at h
       split at h
       ·rename_i S1 p1 hj
        have hyx:¬y=x:=fun hh=> hxy hh.symm
        simp(disch:=first|assumption|decide|omega)[f0,hv,ZGU,hgt,htr,htl,hsl,hcc,hrc,hrm,clc,h1,h2,Zu,hlc,hlm,hp1',hp2',hxy,hxn',hyn',w1,w2,z1,z2,hle]
        refine ZhY.seq (P:=fun f' nb' g'=> nb≤nb'∧St1 I lo n m av S1 p1 f' nb' g'∧∀r,r < lo→g' r=g r) ?_ ?_
        ·refine(zEx hA hn hmn hal hj (ps:=nb) (hgrow (by omega) ?_ ?_ ?_) ?_ ?_ ?_ hyx (by omega) ?_).block ?_ ?_
         ·intro r hr
          have x1:¬r=nb:=by omega
          simp only[atB,at1,if_neg x1]
         ·simp[f0]
         ·simp
         ·simp
         ·simp
         ·simp
         ·simp[tri]
         ·rintro f' nb' g' ⟨hh,_⟩;cases hh
         ·rintro e f' nb' g' hne ⟨rfl,q1,q2,q3⟩
          refine⟨rfl,by omega,q2,fun r hr=> ?_⟩
          have:=hc.lo
          have x1:¬r=nb:=by omega
          rw[q3 r hr]
          simp only[atB,at1,if_neg x1]
        ·rintro f' nb' g' d' ⟨b1,s1,low⟩
         refine(ih S1 A' p1 f' nb' g' d' h s1).weak ?_
         rintro e f2 nb2 g2 ⟨rfl,q1,q2,q3⟩
         exact⟨rfl,by omega,q2,fun r hr=> (q3 r hr).trans (low r hr)⟩
       ·cases h
      ·rw[if_neg hle] at h
       split at h
       ·rename_i S1 p1 hj
        simp(disch:=first|assumption|decide|omega)[f0,hv,ZGU,hgt,htr,htl,hsl,hcc,hrc,hrm,clc,h1,h2,Zu,hlc,hlm,hp1',hp2',hxy,hxn',hyn',w1,w2,z1,z2,hle]
        refine ZhY.seq (P:=fun f' nb' g'=> nb≤nb'∧St1 I lo n m av S1 p1 f' nb' g'∧∀r,r < lo→g' r=g r) ?_ ?_
        ·refine(zEx hA hn hmn hal hj (ps:=nb) (hgrow (by omega) ?_ ?_ ?_) ?_ ?_ ?_ hxy (by omega) ?_).block ?_ ?_
         ·intro r hr
          have x1:¬r=nb:=by omega
          simp only[atB,at1,if_neg x1]
         ·simp[f0]
         ·simp
         ·simp
         ·simp
         ·simp
         ·simp[tri]
         ·rintro f' nb' g' ⟨hh,_⟩;cases hh
         ·rintro e f' nb' g' hne ⟨rfl,q1,q2,q3⟩
          refine⟨rfl,by omega,q2,fun r hr=> ?_⟩
          have:=hc.lo
          have x1:¬r=nb:=by omega
          rw[q3 r hr]
          simp only[atB,at1,if_neg x1]
        ·rintro f' nb' g' d' ⟨b1,s1,low⟩
         refine(ih S1 A' p1 f' nb' g' d' h s1).weak ?_
         rintro e f2 nb2 g2 ⟨rfl,q1,q2,q3⟩
         exact⟨rfl,by omega,q2,fun r hr=> (q3 r hr).trans (low r hr)⟩
       ·cases h
     ·cases h
   ·cases h
end
end
section
open Go Go.Ae
attribute [local simp] ZCl ZF JC JB ZR ZS Zo ZE Jx Jw Jq Zw Zk S_h ZH Zz ZM ZK ZL zt ZO ZN Z7 Zj Jp Z8 JD JE Zt Z0 ZCD ZP ZQ zq zB zz zA zo Z5 zr zO Jy Jz JG JH Z1 Z2 Z3 Z4 ZI Zy JF ZT ZW ZB ZA ZY ZX ZZ ZnB Zi3 V.ones Je Jd Jh Jg Jf Ji Jn Jo Jm ZV Jk Jl Jj zK ZU zL JA Jt Js Ju Jr Jv Ja Jb Jc Z9 max2 cond_true cond_false List.nil_append List.cons_append zc1 zc0 zdR zdP zdQ zcO ze4 ze0 ze1 ze2 ze3 zbT zhc zhr zje zja zjb zjc zjd zjf zdS zdT ziv zdU zd1 zdV zdW zdX zdY zdZ zd0 zd2 zd7 zd3 zd4 zd5 zd6 zd8 zes zd9 zea zek zel zem zen zeo zep zeq zer zeb zec zed zee zef zeg zeh zei zej zet zeu zeA zew zex zey zez zeB zeC zeD zev zeE zeX zeF zeG zeP zeQ zeR zeS zeT zeU zeV zeW zeH zeI zeJ zeK zeL zeM zeN zeO zeY zeZ zfb ze6 ze7 ze8 ze9 zfa zfl zfc zfd zfe zff zfg zfh zfi zfj zfk ze5 zbz zfq zfm zfn zfo zfp zcP zcQ zfB zfr zfs zft zfu zfv zfw zfx zfy zfz zfA zcS zfC zfF zfD zfE zfG zfH zfJ zfK zfI zfL zfQ zfV zfR zfS zfT zfU zf5 zfW zfX zfY zfZ zf0 zf1 zf2 zf3 zf4 zfP zfM zfN zfO zcR zgt zf6 zf7 zgi zgm zgn zgo zgp zgq zgr zgs zf8 zf9 zga zgb zgc zgd zge zgf zgg zgh zgj zgk zgl zcU zgD zgu zgv zgw zgx zgy zgz zgA zgB zgC zcV zgT zgE zgF zgL zgM zgN zgO zgP zgQ zgR zgS zgG zgH zgI zgJ zgK zcW zhb zgU zgV zg3 zg4 zg5 zg6 zg7 zg8 zg9 zha zgW zgX zgY zgZ zg0 zg1 zg2 zcX zhh zhd zhe zhf zhg zcY zhi zhl zhj zhk zhm zhn zhp zhq zho zhs zhx zhC zhy zhz zhA zhB zhD zhT zhE zhF zhL zhM zhN zhO zhP zhQ zhR zhS zhG zhH zhI zhJ zhK zhU zif zhV zhW zh7 zh8 zh9 zia zib zic zid zie zhX zhY zhZ zh0 zh1 zh2 zh3 zh4 zh5 zh6 zig ziu zih zii zil zim zin zio ziq zir zis zit zij zik ziw ziQ zix ziy ziI ziJ ziK ziL ziM ziN ziO ziP ziz ziA ziB ziC ziD ziE ziF ziG ziH ziR zi0 ziS ziT ziU ziV ziW ziX ziY ziZ zi9 zi1 zi2 zi3 zi4 zi5 zi6 zi7 zi8 zhw zht zhu zhv zTL zTJ zSN zSy zSz zSF zSG zSH zSI zSJ zSK zSL zSM zSA zSB zSC zSD zSE zSO zS9 zSP zSQ zS1 zS2 zS3 zS4 zS5 zS6 zS7 zS8 zSR zSS zST zSU zSV zSW zSX zSY zSZ zS0 zTa zTn zTb zTc zTf zTg zTh zTi zTj zTk zTl zTm zTd zTe zTo zTr zTp zTq zTs zTz zTt zTu zTv zTw zTx zTy zTI zTA zTB zTC zTD zTE zTF zTG zTH
section
attribute [local simp] ld3 ZC2 ZCB ZEe ZCG ZDP ZEf ZDp ZCN ZCP ZCK ZDo ZDZ ZDN ZCH JR JS sz3 ZCR ZCx ZD8 ZCz ZDr sp2 sp3 JY JX ltN add1 gtN eqN neN gt0 ZDT za0 za1 zac JO ZFE ZFF zdg
attribute [-simp] zo zr zq zz zA zB zbz zbT
theorem zY6 {fn:Func} {n t:Nat} {f:Nat→V} {h:H} {Q Q':V→Nat→(Nat→Blk)→Prop} {x:Option (List (Go.Ae.R×H))} {k:St→Option (List (Ex×St))} (hx:ZCm Q x)
 (hk:∀v nb g d,Q v nb g→ZCm Q' (Zm1 Tryz.prog hs ks fn (k (S n (at1 f t v) [] (mkH nb g d))))):ZCm Q' (Zm1 Tryz.prog hs ks fn (ZCo (some t) (S n f [] h) x k)):=by
 obtain⟨v,nb,g,d,rfl,hq⟩:=hx
 rw[Zw]
 exact hk v nb g d hq
theorem zOP {n t:Nat} {f:Nat→V} {h:H} {Q:V→Nat→(Nat→Blk)→Prop} {Q':Ex→(Nat→V)→Nat→(Nat→Blk)→Prop} {x:Option (List (Go.Ae.R×H))} {k:St→Option (List (Ex×St))} (hx:ZCm Q x)
 (hk:∀v nb g d,Q v nb g→ZhY n Q' (k (S n (at1 f t v) [] (mkH nb g d)))):ZhY n Q' (ZCo (some t) (S n f [] h) x k):=by
 obtain⟨v,nb,g,d,rfl,hq⟩:=hx
 rw[Zw]
 exact hk v nb g d hq
def Ran (I:Ids) (lo n m:Nat) (av:V) (A':Cl) (nb:Nat) (g:Nat→Blk):V→Nat→(Nat→Blk)→Prop:=fun _ nb' g'=> nb≤nb'∧(∃vm vu,CL I lo n m av A' vm vu nb' g')∧∀r,r < lo→g' r=g r
section
variable {I:Ids} {lo n m:Nat} {apps:List Key} {av:V} (hA:apps≠[]→∃o,av=.vs (prs apps) apps.length 2 o) (hn:n < 100000) (hmn:m≤n) (hal:apps.length=n - m)
include hA hn hmn hal
theorem zOu {fu:Nat} {A A':Cl} {s:Zm0} {vm vu:List V} {nb:Nat} {g:Nat→Blk} {d:List Nat} (h:CL I lo n m av A vm vu nb g) (hr:ZEj m apps fu A [s]=some A'):
 ZCm (Ran I lo n m av A' nb g) (ZCi Tryz.prog hs ks 49 [.ptr I.c 0,.agg (tri s)] (mkH nb g d)):=by
 have hp:V.pures (V.seals [V.ptr I.c 0,.agg (tri s)])=false:=rfl
 rw[zwH hp,zTN _ (by simp),zc0]
 have hlo:=h.lo
 refine ZhY.rets (n:=224) (Q:=fun e f' nb' g'=> e=.normal∧nb≤nb'∧St1 I lo n m av A' [] f' nb' g'∧∀r,r < lo→g' r=g r) ?_ ?_
 ·refine ZhY.seq (P:=fun f' nb' g'=> nb'=nb+1∧f' 0=.ptr I.c 0∧f' 3=.ptr nb 0∧g' nb=.row 0 (tri s)∧∀r,r < nb→g' r=g r) ?_ ?_
  ·simp(disch:=first|assumption|decide|omega)[tri]
   refine ZhY.mk ?_
   refine⟨rfl,rfl,by simp,by simp,by simp[tri],fun r hr=> ?_⟩
   have x1:¬r=nb:=by omega
   simp only[atB,at1,if_neg x1]
  ·rintro f1 nb1 g1 d1 ⟨rfl,f0,f3,gs,gr⟩
   rw[zcO]
   have hl80 (nid:Nat):=ZGV (s.1:Int) (s.2.1:Int) s.2.2 nid
   refine ZhY.seq (P:=fun f' nb' g'=> nb'=nb+1∧f' 0=.ptr I.c 0∧f' 4=.vs (ZCq [s]) 1 3 .tight∧g'=g1) ?_ ?_
   ·simp(disch:=first|assumption|decide|omega)[f0,f3,gs,tri,hl80]
    refine ZhY.mk ?_
    exact⟨rfl,rfl,by simp[f0],by simp;rfl,rfl⟩
   ·rintro f2 nb2 g2 d2 ⟨rfl,f0,f4,rfl⟩
    rw[zbT]
    refine(zYL hA hn hmn hal fu A A' [s] f2 (nb+1) g2 d2 hr ⟨f0,vm,vu,h.grow (by omega) (fun r hr _=> gr r hr),.inl (by rw[f4];rfl),?_⟩).block ?_ ?_
    ·intro a i r _ hh;rw[f4] at hh;cases hh
    ·rintro f3 nb3 g3 ⟨_,q1,q2,q3⟩
     exact⟨rfl,by omega,q2,fun r hr=> (q3 r hr).trans (gr r (by omega))⟩
    ·rintro e f3 nb3 g3 hne ⟨rfl,_⟩;exact absurd rfl hne
 ·rintro e f' nb' g' d' ⟨rfl,q1,⟨_,vm',vu',c',_⟩,q3⟩
  rw[zc1]
  simp(disch:=first|assumption|decide|omega)
  refine ZCm.mk ?_
  exact⟨q1,⟨vm',vu',c'⟩,q3⟩
set_option maxHeartbeats 1000000 in
theorem zXz {fu t:Nat} {A A':Cl} {vm vu:List V} {nb:Nat} {g:Nat→Blk} {d:List Nat} (h:CL I lo n m av A vm vu nb g) (hr:ZFU m apps fu A t=some A'):
 ZCm (Ran I lo n m av A' nb g) (ZCi Tryz.prog hs ks 48 [.ptr I.c 0,nv t] (mkH nb g d)):=by
 have hp:V.pures (V.seals [V.ptr I.c 0,nv t])=false:=rfl
 rw[zwH hp,zTK _ (by simp)]
 have hlo:=h.lo
 unfold ZFU at hr
 cases hkey:ZEt m apps A.cls t with
 |none=> rw[hkey] at hr;cases hr
 |some key=>
  rw[hkey] at hr
  simp only at hr
  unfold ZEt at hkey
  split at hkey
  ·rename_i hmt
   split at hkey
   ·rename_i pr hpr
    split at hkey
    ·rename_i x y hx hy
     obtain rfl:=Option.some.inj hkey
     have hne:apps≠[]:=fun hh=> by rw[hh] at hpr;simp at hpr
     obtain⟨oa,rfl⟩:=hA hne
     obtain⟨ver,ht⟩:=h.rt
     have hc:g I.c=.row 0 (clc I n m _):=h.c
     have hrr:=h.rc
     have hl2:=h.lc
     have hkeys:=h.keys
     have hti:t - m < apps.length:=(List.getElem?_eq_some_iff.1 hpr).1
     have htn:t < n:=by omega
     have l1:=(h.lt I.c (by simp[Ids.all])).2
     have l2:=(h.lt I.rc (by simp[Ids.all])).2
     have l3:=(h.lt I.rt (by simp[Ids.all])).2
     have h2:=Zp hx
     have h3:=Zp hy
     have h4:=zjj hpr
     have hp1:pr.1 < n:=by rw[←hl2];exact(List.getElem?_eq_some_iff.1 hx).1
     have hp2:pr.2 < n:=by rw[←hl2];exact(List.getElem?_eq_some_iff.1 hy).1
     have hp1':pr.1≤n:=Nat.le_of_lt hp1
     have hp2':pr.2≤n:=Nat.le_of_lt hp2
     have e1:I.c≠I.rt:=(Ids.ne h.nd).2.2.2.1
     have e2:I.rc≠I.rt:=(Ids.ne h.nd).2.2.2.2.2.2.2.2.1
     have e1':=Ne.symm e1
     have e2':=Ne.symm e2
     cases hget:ZCL A.tab (x,y) with
     |none=>
      rw[hget] at hr
      obtain rfl:=Option.some.inj hr
      have hlk:ZFT I.rt (.map (ZmO A.tab) ver) (.agg [nv x,nv y])=some {v:=.tup [.int .i64 0,.bool false],rd:=[I.rt]}:=zNF (get:=fun _=> .map (ZmO A.tab) ver) (k:=(x,y)) rfl hget
      have hmp:ZGp I.rt (.map (ZmO A.tab) ver) (.agg [nv x,nv y]) (nv t)=some {v:=ZmM,rd:=[I.rt],wr:=[(I.rt,.map (ZmO (ZCS A.tab (x,y) t)) (ver+1))]}:=ZHE (get:=fun _=> .map (ZmO A.tab) ver) (k:=(x,y)) rfl hkeys
      simp(disch:=first|assumption|decide|omega)[hc,hrr,ht,clc,h2,h3,h4,Zu,hl2,hp1',hp2',ZFM,hlk,hmp]
      refine ZCm.mk ?_
      refine⟨by omega,⟨vm,vu,h.settab (X:=[]) (by omega) (fun r hr hx=> ?_) (fun r hr=> by cases hr) (fun a i r _ hx=> by cases hx) ⟨ver+1,?_⟩ (zC4 hkeys)⟩,fun r hr=> ?_⟩
      ·rw[List.mem_singleton] at hx
       have x1:¬r=nb:=by omega
       have x2:¬r=nb+1:=by omega
       simp only[atB,at1,if_neg hx,if_neg x1,if_neg x2]
      ·simp(disch:=first|assumption|decide|omega)
      ·have x1:¬r=nb:=by omega
       have x2:¬r=nb+1:=by omega
       have x3:¬r=I.rt:=by have:=(h.lt I.rt (by simp[Ids.all])).1;omega
       simp only[atB,at1,if_neg x3,if_neg x1,if_neg x2]
     |some o=>
      rw[hget] at hr
      simp only at hr
      have hlk:ZFT I.rt (.map (ZmO A.tab) ver) (.agg [nv x,nv y])=some {v:=.tup [nv o,.bool true],rd:=[I.rt]}:=zNG (get:=fun _=> .map (ZmO A.tab) ver) (k:=(x,y)) rfl hkeys hget
      simp(disch:=first|assumption|decide|omega)[hc,hrr,ht,clc,h2,h3,h4,Zu,hl2,hp1',hp2',ZFM,ZGa,hlk]
      have hlow:∀{N:Nat} {G:Nat→Blk} {D:List Nat},nb≤N→(∀r,r < nb→G r=g r)→ZCm (Ran I lo n m (.vs (prs apps) apps.length 2 oa) A' N G) (ZCi Tryz.prog hs ks 49 [.ptr I.c 0,.agg [nv t,nv o,.int .i64 (-1)]] (mkH N G D)):=fun {N G D} hN hG=>
       zOu hA hn hmn hal (s:=(t,o, -1)) (h.grow hN (fun r hr _=> hG r hr)) hr
      have hg2:∀{b1 b2 b3 b4:Blk},∀r,r < nb→atB (atB (atB (atB g nb b1) nb b2) (nb+1) b3) (nb+1) b4 r=g r:=fun {b1 b2 b3 b4} r hr=> by
       have x1:¬r=nb:=by omega
       have x2:¬r=nb+1:=by omega
       simp only[atB,at1,if_neg x1,if_neg x2]
      refine zY6 (hlow (by omega) hg2) ?_
      rintro v nb' g' d' ⟨q1,q2,q3⟩
      simp(disch:=first|assumption|decide|omega)
      refine ZCm.mk ?_
      exact⟨by omega,q2,fun r hr=> (q3 r hr).trans (hg2 r (by omega))⟩
    ·cases hkey
   ·cases hkey
  ·cases hkey
end
end
end
section
open Go Go.Ae
attribute [local simp] ZCl ZF JC JB ZR ZS Zo ZE Jx Jw Jq Zw Zk S_h ZH Zz ZM ZK ZL zt ZO ZN Z7 Zj Jp Z8 JD JE Zt Z0 ZCD ZP ZQ zq zB zz zA zo Z5 zr zO Jy Jz JG JH Z1 Z2 Z3 Z4 ZI Zy JF ZT ZW ZB ZA ZY ZX ZZ ZnB Zi3 V.ones Je Jd Jh Jg Jf Ji Jn Jo Jm ZV Jk Jl Jj zK ZU zL JA Jt Js Ju Jr Jv Ja Jb Jc Z9 max2 cond_true cond_false List.nil_append List.cons_append zjU zjT zlW zlU zlV zjK znm zng znh zni znj znk znl zjM zoK zoz zoA zoC zoD zoE zoF zoG zoH zoI zoJ zoB zdt zdv zqo zql zqm zqn zdx zlZ zl2 zl0 zl1 zl4 zl6 zl9 zma zl8 zmb zmh zml zmi zmj zmk zmn zmA zmo zmp zms zmt zmu zmv zmw zmx zmy zmz zmq zmr zmC zmN zmD zmE zmF zmG zmH zmI zmJ zmK zmL zmM zmP zm1 zmQ zmR zmT zmU zmV zmW zmX zmY zmZ zm0 zmS zne zm2 zm3 zm6 zm7 zm8 zm9 zna znb znc znd zm4 zm5 zmf zmc zmd zme zdw zdn znt znp znq znr zns zdp znv zny znw znx znA znC znE znF zch zjN zci znS znL znM znN znO znP znQ znR zjO znZ znU znV znW znX znY zjP zox zn1 zn2 zod zoo zor zos zot zou zov zow zn3 zn4 zn5 zn6 zn7 zn8 zn9 zoa zob zoc zoe zof zog zoh zoi zoj zok zol zom zon zop zoq zjQ zpi zoM zoN zoY zo9 zpc zpd zpe zpf zpg zph zoO zoP zoQ zoR zoS zoT zoU zoV zoW zoX zoZ zo0 zo1 zo2 zo3 zo4 zo5 zo6 zo7 zo8 zpa zpb zpn zpj zpk zpl zpm znJ znG znH znI zdo zdq zpu zpq zpr zps zpt zds zpw zpz zpx zpy zpB zpE zpG zpH zck zjS zdu zpU zpN zpO zpP zpQ zpR zpS zpT zpW zp1 zpX zpY zpZ zp0 zp4 zqe zp5 zp6 zp7 zp8 zp9 zqa zqb zqc zqd zqf zpL zpI zpJ zpK zdr zqj zqg zqh zqi zqk
section
attribute [local simp] ld3 ZC2 ZCB ZEe ZCG ZDP ZEf ZDp ZCN ZCP ZCK ZDo ZDZ ZDN ZCH JR JS sz3 ZCR ZCx ZD8 ZCz ZDr sp2 sp3 JY JX ltN add1 gtN eqN neN gt0 ZDT za0 za1 zac JO ZFE ZFF zdg
attribute [-simp] zo zr zq zz zA zB
theorem zdf {r o l c z:Nat} {e:Bool}:V.cells (.hs r o l c z e)=[.hs r o l c z e]:=rfl
theorem zji {r o l c z:Nat} {e:Bool}:V.one (.hs r o l c z e)=true:=rfl
theorem ZJ8 {a b c d e f g h x:V}:splice [a,b,c,d,e,f,g,h] [x] 2=some [a,b,x,d,e,f,g,h]:=rfl
theorem ZJ9 {a b c d e f g h x:V}:splice [a,b,c,d,e,f,g,h] [x] 6=some [a,b,c,d,e,f,x,h]:=rfl
theorem ZKa {a b c d e f g h x:V}:splice [a,b,c,d,e,f,g,h] [x] 7=some [a,b,c,d,e,f,g,x]:=rfl
attribute [local simp] zdf zji ZJ8 ZJ9 ZKa
theorem ZHR {get:Nat→Blk} {nid:Nat} {x:Int}:ZmL Tryz.prog true get nid .append [27,27] [.nils,.vs [.int .i64 x] 1 1 .tight]=some {v:=.hs nid 0 1 1 1 false,nw:=[.row 0 [.int .i64 x]]}:=by
 have hroom:=ZGr (m:=1) (by omega)
 simp[ZmL,ZEx,ZFV,ZFX,ZC9,sz3,ZCY,hroom,V.ones,V.one]
def ZET (ts:List TypeId) (b:Blk) (nid r len cap z:Nat) (y:V):Option Eff:=ZmL Tryz.prog true (fun _=> b) nid .append ts [.hs r 0 len cap z false,y]
theorem zDm {get:Nat→Blk} {t u nid r len cap z n' z':Nat} {cs':List V} {o':Own}:ZmL Tryz.prog true get nid .append [t,u] [.hs r 0 len cap z false,.vs cs' n' z' o']=ZET [t,u] (get r) nid r len cap z (.vs cs' n' z' o'):=by
 simp only[ZET,ZmL,ZC9,ZCY]
theorem ZG9 {nid r i:Nat} {x:Int} {cs:List V} (hl:cs.length=i) (hi:i < 100000):ZET [27,27] (.row 0 cs) nid r i i 1 (.vs [.int .i64 x] 1 1 .tight)=some {v:=.hs nid 0 (i+1) (i+1) 1 false,rd:=[r],wr:=[(r,.gone)],nw:=[.row 0 (cs++[.int .i64 x])]}:=by
 have hroom:=ZGr (m:=i+1) (by omega)
 have h1:¬i+1≤i:=by omega
 simp[ZET,ZmL,ZEx,ZFV,ZFX,ZC9,sz3,ZCY,hroom,V.ones,V.one,hl]
 intro hh;omega
theorem ZJA {get:Nat→Blk} {nid:Nat} {a b c:Int}:ZmL Tryz.prog true get nid .append [80,80] [.nils,.vs [.int .i64 a,.int .i64 b,.int .i64 c] 1 3 .tight]=some {v:=.hs nid 0 1 1 3 false,nw:=[.row 0 [.int .i64 a,.int .i64 b,.int .i64 c]]}:=by
 have hroom:=ZG1 (m:=1) (by omega)
 simp[ZmL,ZE5,ZG0,ZFW,ZC9,ZCR,ZCY,hroom,V.ones,V.one]
theorem ZJB {nid r i:Nat} {a b c:Int} {cs:List V} (hl:cs.length=i * 3) (hi:i < 100000):ZET [80,80] (.row 0 cs) nid r i i 3 (.vs [.int .i64 a,.int .i64 b,.int .i64 c] 1 3 .tight)=some {v:=.hs nid 0 (i+1) (i+1) 3 false,rd:=[r],wr:=[(r,.gone)],nw:=[.row 0 (cs++[.int .i64 a,.int .i64 b,.int .i64 c])]}:=by
 have hroom:=ZG1 (m:=i+1) (by omega)
 simp[ZET,ZmL,ZE5,ZG0,ZFW,ZC9,ZCR,ZCY,hroom,V.ones,V.one,hl]
 intro hh;omega
theorem ZEE (a:Int) (nid:Nat):ZDl Tryz.prog false 27 1 [(0,.int .i64 a)] nid=some {v:=.vs [.int .i64 a] 1 1 .tight}:=by
 unfold ZDl
 rw[show ZE1 Tryz.prog 27 1 [(0,.int .i64 a)]=some ([.int .i64 a],1) by kernel_rfl]
 rfl
theorem zPx:ZFN Tryz.prog 126 []=some (.agg [.int .i64 0,.int .i64 0,.int .i64 0]):=by kernel_rfl
attribute [local simp] ZHR zDm ZJA ZEE ZGV zPx
def fld (i r z:Nat):V:=match i with
 |0=> .nils
 |i+1=> .hs r 0 (i+1) (i+1) z false
def ZD0 (i n:Nat):List V:=(List.range i).map (fun (j:Nat)=> V.vs [nv j] 1 1 .tight)++List.replicate (n - i) .nils
theorem zXJ {i n:Nat} (h:i≤n):(ZD0 i n).length=n:=by simp[ZD0];omega
theorem zXK {i n:Nat} (h:i < n):(ZD0 i n).set i (.vs [nv i] 1 1 .tight)=ZD0 (i+1) n:=by
 unfold ZD0
 obtain⟨k,hk⟩:∃k,n - i=k+1:=⟨n - i - 1,by omega⟩
 have hk2:n - (i+1)=k:=by omega
 rw[hk,hk2,List.set_append_right _ _ (by simp),List.range_succ,List.map_append,List.append_assoc]
 congr 1
 simp[List.replicate_succ]
structure IN (c rm ru rt lo n m:Nat) (av:V) (i rc rn rw nb:Nat) (g:Nat→Blk):Prop where
 fc:g c=.row 0 [nv m,av,fld i rc 1,.hs rm 0 n n 1 true,.hs ru 0 n n 1 true,.map rt,fld i rn 1,fld i rw 3]
 fm:g rm=.row 0 (ZD0 i n)
 fu:g ru=.row 0 (List.replicate n .nils)
 ft:g rt=.map [] 0
 rows:i≠0→g rc=.row 0 (ints (List.range i))∧g rn=.row 0 (ZDb (List.replicate i none))∧g rw=.row 0 (ZCq (List.replicate i (0,0,0)))
 lt:∀r∈[c,rm,ru,rt],lo≤r∧r < nb
 lt2:i≠0→∀r∈[rc,rn,rw],lo≤r∧r < nb
 nd:[c,rm,ru,rt].Nodup
 nd2:i≠0→(Ids.mk c rc rm ru rt rn rw).all.Nodup
theorem zYq (i:Nat):ints (List.range i)++[nv i]=ints (List.range (i+1)):=by
 rw[List.range_succ,←zzf];rfl
theorem zX5 (i:Nat):ZDb (List.replicate i none)++[V.int .i64 (-1)]=ZDb (List.replicate (i+1) none):=by
 unfold ZDb;rw[List.replicate_succ',List.map_append];rfl
theorem zZt (i:Nat):ZCq (List.replicate i (0,0,0))++[V.int .i64 0,.int .i64 0,.int .i64 0]=ZCq (List.replicate (i+1) (0,0,0)):=by
 rw[List.replicate_succ',←zC7];rfl
set_option maxHeartbeats 2000000 in
theorem zRa (c rm ru rt lo n m:Nat) (av:V) (hn:n < 100000):∀(k i rc rn rw:Nat) (f:Nat→V) (nb:Nat) (g:Nat→Blk) (d:List Nat),n - i=k→i≤n→f 10=.ptr c 0→f 30=nv n→f 31=nv i→IN c rm ru rt lo n m av i rc rn rw nb g→
 ZhY 166 (fun e f' nb' g'=> e=.exit 0∧nb≤nb'∧(∀t,t < 11→f' t=f t)∧(∃rc rn rw,IN c rm ru rt lo n m av n rc rn rw nb' g')∧∀r,r < lo→g' r=g r) (C 22 zjJ (S 166 f [] (mkH nb g d))):=by
 intro k
 induction k with
 |zero=>
  intro i rc rn rw f nb g d hk hi f10 f30 f31 h
  obtain rfl:i=n:=by omega
  rw[zHq]
  simp(disch:=first|assumption|decide|omega)[f30,f31]
  refine ZhY.mk ?_
  refine⟨rfl,Nat.le_refl _,fun t ht=> ?_,⟨rc,rn,rw,h⟩,fun _ _=> rfl⟩
  simp only[zt];repeat (rw[if_neg (by omega)])
 |succ k ih=>
  intro i rc rn rw f nb g d hk hi f10 f30 f31 h
  have hin:i < n:=by omega
  have hin':i≤n:=hi
  have ek:n - (i+1)=k:=by omega
  have hc:=h.fc
  have hrm:=h.fm
  have hru:=h.fu
  have hrt:=h.ft
  have hml:=zXJ hi
  have sp1:splice (ZD0 i n) [.vs [nv i] 1 1 .tight] i=some (ZD0 (i+1) n):=by rw[zaV (by omega),zXK hin]
  have l1:=(h.lt c (by simp)).2
  have l2:=(h.lt rm (by simp)).2
  have l3:=(h.lt ru (by simp)).2
  have l4:=(h.lt rt (by simp)).2
  have k1:=(h.lt c (by simp)).1
  have hnd:=h.nd
  simp only[List.nodup_cons,List.mem_cons,List.not_mem_nil,not_or,or_false] at hnd
  obtain⟨⟨d1,d2,d3⟩,⟨d4,d5⟩,d6,_⟩:=hnd
  have d1':=Ne.symm d1
  have d2':=Ne.symm d2
  have d3':=Ne.symm d3
  rw[zHq]
  have hgg:∀{N:Nat} {b1 b2 b3 b4 b5 b6 b7:Blk},True:=fun {_ _ _ _ _ _ _ _}=> trivial
  by_cases hi0:i=0
  ·have e1:fld i rc 1=.nils:=by rw[hi0];rfl
   have e2:fld i rn 1=.nils:=by rw[hi0];rfl
   have e3:fld i rw 3=.nils:=by rw[hi0];rfl
   rw[e1,e2,e3] at hc
   simp(disch:=first|assumption|decide|omega)[f10,f30,f31,hin,hin',hc,hrm,hml,sp1]
   refine(ih (i+1) nb (nb+1) (nb+1+1) _ (nb+1+1+1) _ _ ek hin ?_ ?_ ?_ ⟨?_,?_,?_,?_,?_,?_,?_,h.nd,?_⟩).weak ?_
   ·simp[f10]
   ·simp[f30]
   ·simp
   ·simp(disch:=first|assumption|decide|omega)[fld,hi0]
   ·simp(disch:=first|assumption|decide|omega)
   ·simp(disch:=first|assumption|decide|omega)[hru]
   ·simp(disch:=first|assumption|decide|omega)[hrt]
   ·intro _
    refine⟨?_,?_,?_⟩
    ·simp(disch:=first|assumption|decide|omega)[hi0];rfl
    ·simp(disch:=first|assumption|decide|omega)[hi0];rfl
    ·simp(disch:=first|assumption|decide|omega)[hi0];rfl
   ·intro r hr;have:=h.lt r hr;omega
   ·intro _ r hr
    simp only[List.mem_cons,List.not_mem_nil,or_false] at hr
    omega
   ·intro _
    simp only[Ids.all,List.nodup_cons,List.mem_cons,List.not_mem_nil,not_or,or_false]
    refine⟨⟨?_,?_,?_,?_,?_,?_⟩,⟨?_,?_,?_,?_,?_⟩,⟨?_,?_,?_,?_⟩,⟨?_,?_,?_⟩,⟨?_,?_⟩,?_,?_,.nil⟩ <;> first|assumption|omega|simp
   ·rintro e f' nb' g' ⟨rfl,q1,q2,q3,q4⟩
    refine⟨rfl,by omega,fun t ht=> ?_,q3,fun r hr=> ?_⟩
    ·rw[q2 t ht];simp only[zt];repeat (rw[if_neg (by omega)])
    ·rw[q4 r hr]
     have x0:¬r=c:=by omega
     have x1:¬r=nb:=by omega
     have x2:¬r=nb+1:=by omega
     have x3:¬r=nb+1+1:=by omega
     have x4:¬r=rm:=by have:=(h.lt rm (by simp)).1;omega
     simp only[atB,at1,if_neg x0,if_neg x1,if_neg x2,if_neg x3,if_neg x4]
  ·obtain⟨q1,q2,q3⟩:=h.rows hi0
   have e1:fld i rc 1=.hs rc 0 i i 1 false:=by cases i with|zero=> exact absurd rfl hi0|succ i=> rfl
   have e2:fld i rn 1=.hs rn 0 i i 1 false:=by cases i with|zero=> exact absurd rfl hi0|succ i=> rfl
   have e3:fld i rw 3=.hs rw 0 i i 3 false:=by cases i with|zero=> exact absurd rfl hi0|succ i=> rfl
   rw[e1,e2,e3] at hc
   have a1 (nid:Nat):ZET [27,27] (.row 0 (ints (List.range i))) nid rc i i 1 (.vs [.int .i64 (i:Int)] 1 1 .tight)=some {v:=.hs nid 0 (i+1) (i+1) 1 false,rd:=[rc],wr:=[(rc,.gone)],nw:=[.row 0 (ints (List.range (i+1)))]}:=by
    rw[ZG9 (by rw[Zu,List.length_range]) (by omega),←zYq]
   have a2 (nid:Nat):ZET [27,27] (.row 0 (ZDb (List.replicate i none))) nid rn i i 1 (.vs [.int .i64 (-1)] 1 1 .tight)=some {v:=.hs nid 0 (i+1) (i+1) 1 false,rd:=[rn],wr:=[(rn,.gone)],nw:=[.row 0 (ZDb (List.replicate (i+1) none))]}:=by
    rw[ZG9 (by rw[zCC,List.length_replicate]) (by omega),←zX5]
   have a3 (nid:Nat):ZET [80,80] (.row 0 (ZCq (List.replicate i (0,0,0)))) nid rw i i 3 (.vs [.int .i64 0,.int .i64 0,.int .i64 0] 1 3 .tight)=some {v:=.hs nid 0 (i+1) (i+1) 3 false,rd:=[rw],wr:=[(rw,.gone)],nw:=[.row 0 (ZCq (List.replicate (i+1) (0,0,0)))]}:=by
    rw[ZJB (by rw[zkr,List.length_replicate]) (by omega),←zZt]
   have m1:=(h.lt2 hi0 rc (by simp)).2
   have m2:=(h.lt2 hi0 rn (by simp)).2
   have m3:=(h.lt2 hi0 rw (by simp)).2
   have hnd2:=h.nd2 hi0
   obtain⟨d_c_rc,d_c_rm,d_c_ru,d_c_rt,d_c_rn,d_c_rw,d_rc_rm,d_rc_ru,d_rc_rt,d_rc_rn,d_rc_rw,d_rm_ru,d_rm_rt,d_rm_rn,d_rm_rw,d_ru_rt,d_ru_rn,d_ru_rw,d_rt_rn,d_rt_rw,d_rn_rw⟩:=Ids.ne hnd2
   obtain⟨d_rc_c,d_rm_c,d_ru_c,d_rt_c,d_rn_c,d_rw_c,d_rm_rc,d_ru_rc,d_rt_rc,d_rn_rc,d_rw_rc,d_ru_rm,d_rt_rm,d_rn_rm,d_rw_rm,d_rt_ru,d_rn_ru,d_rw_ru,d_rn_rt,d_rw_rt,d_rw_rn⟩:=Ids.ne' hnd2
   simp only at d_c_rc d_c_rm d_c_ru d_c_rt d_c_rn d_c_rw d_rc_rm d_rc_ru d_rc_rt d_rc_rn d_rc_rw d_rm_ru d_rm_rt d_rm_rn d_rm_rw d_ru_rt d_ru_rn d_ru_rw d_rt_rn d_rt_rw d_rn_rw d_rc_c d_rm_c d_ru_c d_rt_c d_rn_c d_rw_c d_rm_rc d_ru_rc d_rt_rc d_rn_rc d_rw_rc d_ru_rm d_rt_rm d_rn_rm d_rw_rm d_rt_ru d_rn_ru d_rw_ru d_rn_rt d_rw_rt d_rw_rn
   simp(disch:=first|assumption|decide|omega)[f10,f30,f31,hin,hin',hc,hrm,hml,sp1,q1,q2,q3,a1,a2,a3]
   refine(ih (i+1) nb (nb+1) (nb+1+1) _ (nb+1+1+1) _ _ ek hin ?_ ?_ ?_ ⟨?_,?_,?_,?_,?_,?_,?_,h.nd,?_⟩).weak ?_
   ·simp[f10]
   ·simp[f30]
   ·simp
   ·simp(disch:=first|assumption|decide|omega)[fld]
   ·simp(disch:=first|assumption|decide|omega)
   ·simp(disch:=first|assumption|decide|omega)[hru]
   ·simp(disch:=first|assumption|decide|omega)[hrt]
   ·intro _
    refine⟨?_,?_,?_⟩
    ·simp(disch:=first|assumption|decide|omega)
    ·simp(disch:=first|assumption|decide|omega)
    ·simp(disch:=first|assumption|decide|omega)
   ·intro r hr;have:=h.lt r hr;omega
   ·intro _ r hr
    simp only[List.mem_cons,List.not_mem_nil,or_false] at hr
    omega
   ·intro _
    simp only[Ids.all,List.nodup_cons,List.mem_cons,List.not_mem_nil,not_or,or_false]
    refine⟨⟨?_,?_,?_,?_,?_,?_⟩,⟨?_,?_,?_,?_,?_⟩,⟨?_,?_,?_,?_⟩,⟨?_,?_,?_⟩,⟨?_,?_⟩,?_,?_,.nil⟩ <;> first|assumption|omega|simp
   ·rintro e f' nb' g' ⟨rfl,w1,w2,w3,w4⟩
    refine⟨rfl,by omega,fun t ht=> ?_,w3,fun r hr=> ?_⟩
    ·rw[w2 t ht];simp only[zt];repeat (rw[if_neg (by omega)])
    ·rw[w4 r hr]
     have x0:¬r=c:=by omega
     have x1:¬r=nb:=by omega
     have x2:¬r=nb+1:=by omega
     have x3:¬r=nb+1+1:=by omega
     have x4:¬r=rm:=by have:=(h.lt rm (by simp)).1;omega
     have x5:¬r=rc:=by have:=(h.lt2 hi0 rc (by simp)).1;omega
     have x6:¬r=rn:=by have:=(h.lt2 hi0 rn (by simp)).1;omega
     have x7:¬r=rw:=by have:=(h.lt2 hi0 rw (by simp)).1;omega
     simp only[atB,at1,if_neg x0,if_neg x1,if_neg x2,if_neg x3,if_neg x4,if_neg x5,if_neg x6,if_neg x7]
end
section
attribute [local simp] ld3 ZC2 ZCB ZEe ZCG ZDP ZEf ZDp ZCN ZCP ZCK ZDo ZDZ ZDN ZCH JR JS sz3 ZCR ZCx ZD8 ZCz ZDr sp2 sp3 JY JX ltN add1 gtN eqN neN gt0 ZDT addN za0 za1 zac JO ZFE ZFF zdg ZEE zdf zji
attribute [-simp] zo zr zq zz zA zB zch zci
def ZFL (m:Nat) (apps:List Key) (fu i:Nat) (p:Key) (A:Cl):Option Cl:=
 match A.cls[p.1]?,A.cls[p.2]? with
 |some x,some y=> match A.use[x]? with
  |some ux=> if (ux++[m+i]).length < 100000 then
   match (A.use.set x (ux++[m+i]))[y]? with
   |some uy=> if (uy++[m+i]).length < 100000 then ZFU m apps fu {A with use:=(A.use.set x (ux++[m+i])).set y (uy++[m+i])} (m+i) else none
   |none=> none
   else none
  |none=> none
 |_,_=> none
def ZEI (m:Nat) (apps:List Key) (fu:Nat):List Key→Nat→Cl→Option Cl
 |[],_,A=> some A
 |p::l,i,A=> match ZFL m apps fu i p A with
  |some A'=> ZEI m apps fu l (i+1) A'
  |none=> none
section
variable {I:Ids} {lo n m x t pb nb:Nat} {p1 p2:Nat} {av vy:V} {cls:List Nat} {cells:List V} {l:List Nat} {f:Nat→V} {g:Nat→Blk} {d:List Nat}
set_option maxHeartbeats 2000000 in
theorem zZj (f10:f 10=.ptr I.c 0) (f13:f 13=.ptr pb 0) (f14:f 14=nv t) (gp:g pb=.row 0 [nv p1,nv p2]) (hpb:pb < nb) (hpI:pb∉I.all) (hc:g I.c=.row 0 (clc I n m av)) (hrc:g I.rc=.row 0 (ints cls)) (hlc:cls.length=n) (hcx:cls[p1]?=some x) (hr:g I.ru=.row 0 cells) (hn:cells.length=n) (hy:cells[x]?=some vy)
 (ha:App g lo nb vy (.vs [nv t] 1 1 .tight) l) (cy:V.cells vy=[vy]∧V.one vy=true) (hnd:I.all.Nodup) (hlo:lo≤nb) (hlt:∀r∈I.all,r < nb):
 ZhY 166 (fun e f' nb' g'=> e=.normal∧nb≤nb'∧(∀t,t < 82∨111 < t→f' t=f t)∧Put g g' lo nb nb' I.ru cells x vy l) (C 22 zj (S 166 f [] (mkH nb g d))):=by
 have hyn:x < n:=by rw[←hn];exact(List.getElem?_eq_some_iff.1 hy).1
 have hyn':x≤n:=Nat.le_of_lt hyn
 have hpn:p1 < n:=by rw[←hlc];exact(List.getElem?_eq_some_iff.1 hcx).1
 have hpn':p1≤n:=Nat.le_of_lt hpn
 have h1:=Zp hcx
 have h2:=za7 hy
 have l1:=hlt I.c (by simp[Ids.all])
 have l2:=hlt I.ru (by simp[Ids.all])
 have l3:=hlt I.rc (by simp[Ids.all])
 have sp (v:V):splice cells [v] x=some (cells.set x v):=zaV (by omega)
 simp only[Ids.all,List.mem_cons,List.not_mem_nil,not_or,or_false] at hpI
 obtain⟨u1,u2,_,u4,_,_,_⟩:=hpI
 have u1':=Ne.symm u1
 have u2':=Ne.symm u2
 have u4':=Ne.symm u4
 obtain⟨c1,c2⟩:=cy
 cases ha with
 |same h hv=>
  obtain⟨d_c_rc,d_c_rm,d_c_ru,d_c_rt,d_c_rn,d_c_rw,d_rc_rm,d_rc_ru,d_rc_rt,d_rc_rn,d_rc_rw,d_rm_ru,d_rm_rt,d_rm_rn,d_rm_rw,d_ru_rt,d_ru_rn,d_ru_rw,d_rt_rn,d_rt_rw,d_rn_rw⟩:=Ids.ne hnd
  obtain⟨d_rc_c,d_rm_c,d_ru_c,d_rt_c,d_rn_c,d_rw_c,d_rm_rc,d_ru_rc,d_rt_rc,d_rn_rc,d_rw_rc,d_ru_rm,d_rt_rm,d_rn_rm,d_rw_rm,d_rt_ru,d_rn_ru,d_rw_ru,d_rn_rt,d_rw_rt,d_rw_rn⟩:=Ids.ne' hnd
  simp(disch:=first|assumption|decide|omega)[f10,f13,f14,gp,hc,hrc,hr,clc,h1,h2,hn,hlc,hpn',hyn',Zu,h,sp,c1,c2]
  refine ZhY.mk ?_
  refine⟨rfl,Nat.le_refl _,fun t ht=> ?_,⟨vy,?_,by simp,fun r hr=> .inl hr⟩,fun r hr hx=> ?_⟩
  ·simp only[zt];repeat (rw[if_neg (by omega)])
  ·refine hv.keep (X:=[I.ru]) (Nat.le_refl _) (fun r hr hx=> ?_) fun r hr' hw hh=> ?_
   ·rw[List.mem_singleton] at hx
    simp only[atB,at1,if_neg hx]
   ·rw[List.mem_singleton.1 hr',hr] at hh;cases hh
  ·rw[List.mem_cons,not_or] at hx
   simp only[atB,at1,if_neg hx.1]
 |new h=>
  obtain⟨d_c_rc,d_c_rm,d_c_ru,d_c_rt,d_c_rn,d_c_rw,d_rc_rm,d_rc_ru,d_rc_rt,d_rc_rn,d_rc_rw,d_rm_ru,d_rm_rt,d_rm_rn,d_rm_rw,d_ru_rt,d_ru_rn,d_ru_rw,d_rt_rn,d_rt_rw,d_rn_rw⟩:=Ids.ne hnd
  obtain⟨d_rc_c,d_rm_c,d_ru_c,d_rt_c,d_rn_c,d_rw_c,d_rm_rc,d_ru_rc,d_rt_rc,d_rn_rc,d_rw_rc,d_ru_rm,d_rt_rm,d_rn_rm,d_rw_rm,d_rt_ru,d_rn_ru,d_rw_ru,d_rn_rt,d_rw_rt,d_rw_rn⟩:=Ids.ne' hnd
  simp(disch:=first|assumption|decide|omega)[f10,f13,f14,gp,hc,hrc,hr,clc,h1,h2,hn,hlc,hpn',hyn',Zu,h,sp,c1,c2]
  refine ZhY.mk ?_
  refine⟨rfl,by omega,fun t ht=> ?_,⟨_,.inr (.inr ⟨nb,rfl,hlo,by omega,?_⟩),by simp,fun r hr=> ?_⟩,fun r hr hx=> ?_⟩
  ·simp only[zt];repeat (rw[if_neg (by omega)])
  ·simp(disch:=first|assumption|decide|omega)
  ·simp only[ZCj,Option.some.injEq] at hr;right;omega
  ·rw[List.mem_cons,not_or] at hx
   have x1:¬r=nb:=by omega
   simp only[atB,at1,if_neg hx.1,if_neg x1]
 |tok r e cs len cx lx zx ox hy' hx' h3 h4 h5 h=>
  obtain⟨rfl,rfl,rfl,rfl⟩:cx=[nv t]∧lx=1∧zx=1∧ox=.tight:=by cases hx';exact⟨rfl,rfl,rfl,rfl⟩
  subst hy'
  have t1:I.c≠r:=fun hh=> by rw[←hh,hc] at h5;cases h5
  have t2:I.ru≠r:=fun hh=> by rw[←hh,hr] at h5;cases h5
  have t5:I.rc≠r:=fun hh=> by rw[←hh,hrc] at h5;cases h5
  have t6:pb≠r:=fun hh=> by rw[←hh,gp] at h5;cases h5
  have t3:=Ne.symm t1
  have t4:=Ne.symm t2
  have t7:=Ne.symm t5
  have t8:=Ne.symm t6
  obtain⟨d_c_rc,d_c_rm,d_c_ru,d_c_rt,d_c_rn,d_c_rw,d_rc_rm,d_rc_ru,d_rc_rt,d_rc_rn,d_rc_rw,d_rm_ru,d_rm_rt,d_rm_rn,d_rm_rw,d_ru_rt,d_ru_rn,d_ru_rw,d_rt_rn,d_rt_rw,d_rn_rw⟩:=Ids.ne hnd
  obtain⟨d_rc_c,d_rm_c,d_ru_c,d_rt_c,d_rn_c,d_rw_c,d_rm_rc,d_ru_rc,d_rt_rc,d_rn_rc,d_rw_rc,d_ru_rm,d_rt_rm,d_rn_rm,d_rw_rm,d_rt_ru,d_rn_ru,d_rw_ru,d_rn_rt,d_rw_rt,d_rw_rn⟩:=Ids.ne' hnd
  simp(disch:=first|assumption|decide|omega)[f10,f13,f14,gp,hc,hrc,hr,clc,h1,h2,hn,hlc,hpn',hyn',Zu,h,h5,sp,c1,c2]
  refine ZhY.mk ?_
  refine⟨rfl,Nat.le_refl _,fun t ht=> ?_,⟨_,.inr (.inr ⟨r,rfl,h3,h4,?_⟩),by simp,fun r' hr=> .inl hr⟩,fun r' hr hx=> ?_⟩
  ·simp only[zt];repeat (rw[if_neg (by omega)])
  ·simp(disch:=first|assumption|decide|omega)
  ·simp only[ZCj,Option.toList,List.mem_cons,List.not_mem_nil,or_false,not_or] at hx
   simp only[atB,at1,if_neg hx.1,if_neg hx.2]
set_option maxHeartbeats 2000000 in
theorem zZk (f10:f 10=.ptr I.c 0) (f13:f 13=.ptr pb 0) (f14:f 14=nv t) (gp:g pb=.row 0 [nv p1,nv p2]) (hpb:pb < nb) (hpI:pb∉I.all) (hc:g I.c=.row 0 (clc I n m av)) (hrc:g I.rc=.row 0 (ints cls)) (hlc:cls.length=n) (hcx:cls[p2]?=some x) (hr:g I.ru=.row 0 cells) (hn:cells.length=n) (hy:cells[x]?=some vy)
 (ha:App g lo nb vy (.vs [nv t] 1 1 .tight) l) (cy:V.cells vy=[vy]∧V.one vy=true) (hnd:I.all.Nodup) (hlo:lo≤nb) (hlt:∀r∈I.all,r < nb):
 ZhY 166 (fun e f' nb' g'=> e=.normal∧nb≤nb'∧(∀t,t < 112∨141 < t→f' t=f t)∧Put g g' lo nb nb' I.ru cells x vy l) (C 22 zk (S 166 f [] (mkH nb g d))):=by
 have hyn:x < n:=by rw[←hn];exact(List.getElem?_eq_some_iff.1 hy).1
 have hyn':x≤n:=Nat.le_of_lt hyn
 have hpn:p2 < n:=by rw[←hlc];exact(List.getElem?_eq_some_iff.1 hcx).1
 have hpn':p2≤n:=Nat.le_of_lt hpn
 have h1:=Zp hcx
 have h2:=za7 hy
 have l1:=hlt I.c (by simp[Ids.all])
 have l2:=hlt I.ru (by simp[Ids.all])
 have l3:=hlt I.rc (by simp[Ids.all])
 have sp (v:V):splice cells [v] x=some (cells.set x v):=zaV (by omega)
 simp only[Ids.all,List.mem_cons,List.not_mem_nil,not_or,or_false] at hpI
 obtain⟨u1,u2,_,u4,_,_,_⟩:=hpI
 have u1':=Ne.symm u1
 have u2':=Ne.symm u2
 have u4':=Ne.symm u4
 obtain⟨c1,c2⟩:=cy
 cases ha with
 |same h hv=>
  obtain⟨d_c_rc,d_c_rm,d_c_ru,d_c_rt,d_c_rn,d_c_rw,d_rc_rm,d_rc_ru,d_rc_rt,d_rc_rn,d_rc_rw,d_rm_ru,d_rm_rt,d_rm_rn,d_rm_rw,d_ru_rt,d_ru_rn,d_ru_rw,d_rt_rn,d_rt_rw,d_rn_rw⟩:=Ids.ne hnd
  obtain⟨d_rc_c,d_rm_c,d_ru_c,d_rt_c,d_rn_c,d_rw_c,d_rm_rc,d_ru_rc,d_rt_rc,d_rn_rc,d_rw_rc,d_ru_rm,d_rt_rm,d_rn_rm,d_rw_rm,d_rt_ru,d_rn_ru,d_rw_ru,d_rn_rt,d_rw_rt,d_rw_rn⟩:=Ids.ne' hnd
  simp(disch:=first|assumption|decide|omega)[f10,f13,f14,gp,hc,hrc,hr,clc,h1,h2,hn,hlc,hpn',hyn',Zu,h,sp,c1,c2]
  refine ZhY.mk ?_
  refine⟨rfl,Nat.le_refl _,fun t ht=> ?_,⟨vy,?_,by simp,fun r hr=> .inl hr⟩,fun r hr hx=> ?_⟩
  ·simp only[zt];repeat (rw[if_neg (by omega)])
  ·refine hv.keep (X:=[I.ru]) (Nat.le_refl _) (fun r hr hx=> ?_) fun r hr' hw hh=> ?_
   ·rw[List.mem_singleton] at hx
    simp only[atB,at1,if_neg hx]
   ·rw[List.mem_singleton.1 hr',hr] at hh;cases hh
  ·rw[List.mem_cons,not_or] at hx
   simp only[atB,at1,if_neg hx.1]
 |new h=>
  obtain⟨d_c_rc,d_c_rm,d_c_ru,d_c_rt,d_c_rn,d_c_rw,d_rc_rm,d_rc_ru,d_rc_rt,d_rc_rn,d_rc_rw,d_rm_ru,d_rm_rt,d_rm_rn,d_rm_rw,d_ru_rt,d_ru_rn,d_ru_rw,d_rt_rn,d_rt_rw,d_rn_rw⟩:=Ids.ne hnd
  obtain⟨d_rc_c,d_rm_c,d_ru_c,d_rt_c,d_rn_c,d_rw_c,d_rm_rc,d_ru_rc,d_rt_rc,d_rn_rc,d_rw_rc,d_ru_rm,d_rt_rm,d_rn_rm,d_rw_rm,d_rt_ru,d_rn_ru,d_rw_ru,d_rn_rt,d_rw_rt,d_rw_rn⟩:=Ids.ne' hnd
  simp(disch:=first|assumption|decide|omega)[f10,f13,f14,gp,hc,hrc,hr,clc,h1,h2,hn,hlc,hpn',hyn',Zu,h,sp,c1,c2]
  refine ZhY.mk ?_
  refine⟨rfl,by omega,fun t ht=> ?_,⟨_,.inr (.inr ⟨nb,rfl,hlo,by omega,?_⟩),by simp,fun r hr=> ?_⟩,fun r hr hx=> ?_⟩
  ·simp only[zt];repeat (rw[if_neg (by omega)])
  ·simp(disch:=first|assumption|decide|omega)
  ·simp only[ZCj,Option.some.injEq] at hr;right;omega
  ·rw[List.mem_cons,not_or] at hx
   have x1:¬r=nb:=by omega
   simp only[atB,at1,if_neg hx.1,if_neg x1]
 |tok r e cs len cx lx zx ox hy' hx' h3 h4 h5 h=>
  obtain⟨rfl,rfl,rfl,rfl⟩:cx=[nv t]∧lx=1∧zx=1∧ox=.tight:=by cases hx';exact⟨rfl,rfl,rfl,rfl⟩
  subst hy'
  have t1:I.c≠r:=fun hh=> by rw[←hh,hc] at h5;cases h5
  have t2:I.ru≠r:=fun hh=> by rw[←hh,hr] at h5;cases h5
  have t5:I.rc≠r:=fun hh=> by rw[←hh,hrc] at h5;cases h5
  have t6:pb≠r:=fun hh=> by rw[←hh,gp] at h5;cases h5
  have t3:=Ne.symm t1
  have t4:=Ne.symm t2
  have t7:=Ne.symm t5
  have t8:=Ne.symm t6
  obtain⟨d_c_rc,d_c_rm,d_c_ru,d_c_rt,d_c_rn,d_c_rw,d_rc_rm,d_rc_ru,d_rc_rt,d_rc_rn,d_rc_rw,d_rm_ru,d_rm_rt,d_rm_rn,d_rm_rw,d_ru_rt,d_ru_rn,d_ru_rw,d_rt_rn,d_rt_rw,d_rn_rw⟩:=Ids.ne hnd
  obtain⟨d_rc_c,d_rm_c,d_ru_c,d_rt_c,d_rn_c,d_rw_c,d_rm_rc,d_ru_rc,d_rt_rc,d_rn_rc,d_rw_rc,d_ru_rm,d_rt_rm,d_rn_rm,d_rw_rm,d_rt_ru,d_rn_ru,d_rw_ru,d_rn_rt,d_rw_rt,d_rw_rn⟩:=Ids.ne' hnd
  simp(disch:=first|assumption|decide|omega)[f10,f13,f14,gp,hc,hrc,hr,clc,h1,h2,hn,hlc,hpn',hyn',Zu,h,h5,sp,c1,c2]
  refine ZhY.mk ?_
  refine⟨rfl,Nat.le_refl _,fun t ht=> ?_,⟨_,.inr (.inr ⟨r,rfl,h3,h4,?_⟩),by simp,fun r' hr=> .inl hr⟩,fun r' hr hx=> ?_⟩
  ·simp only[zt];repeat (rw[if_neg (by omega)])
  ·simp(disch:=first|assumption|decide|omega)
  ·simp only[ZCj,Option.toList,List.mem_cons,List.not_mem_nil,or_false,not_or] at hx
   simp only[atB,at1,if_neg hx.1,if_neg hx.2]
end
end
section
attribute [local simp] ld3 ZC2 ZCB ZEe ZCG ZDP ZEf ZDp ZCN ZCP ZCK ZDo ZDZ ZDN ZCH JR JS sz3 ZCR ZCx ZD8 ZCz ZDr sp2 sp3 JY JX ltN add1 gtN eqN neN gt0 ZDT addN za0 za1 zac JO ZFE ZFF zdg ZEE zdf zji
attribute [-simp] zo zr zq zz zA zB zch zci zck
theorem zyx (t:Nat):SlV (.vs [nv t] 1 1 .tight) [t]:=.inr ⟨.tight,rfl⟩
set_option maxHeartbeats 2000000 in
theorem zPv {I:Ids} {lo n m fu:Nat} {apps:List Key} {av:V} (hA:apps≠[]→∃o,av=.vs (prs apps) apps.length 2 o) (hn:n < 100000) (hmn:m≤n) (hal:apps.length=n - m):∀(k i:Nat) (A A':Cl) (f:Nat→V) (nb:Nat) (g:Nat→Blk) (d:List Nat),apps.length - i=k→i≤apps.length→ZEI m apps fu (apps.drop i) i A=some A'→
 f 0=nv m→f 10=.ptr I.c 0→f 72=av→f 73=nv apps.length→f 74=nv i→(∃vm vu,CL I lo n m av A vm vu nb g)→
 ZhY 166 (fun e f' nb' g'=> e=.exit 2∧nb≤nb'∧(∀t,t < 12→f' t=f t)∧(∃vm vu,CL I lo n m av A' vm vu nb' g')∧∀r,r < lo→g' r=g r) (C 22 zjL (S 166 f [] (mkH nb g d))):=by
 intro k
 induction k with
 |zero=>
  intro i A A' f nb g d hk hi h f0 f10 f72 f73 f74 hc
  obtain rfl:i=apps.length:=by omega
  rw[List.drop_length] at h
  obtain rfl:A=A':=Option.some.inj h
  rw[zAx]
  simp(disch:=first|assumption|decide|omega)[f73,f74]
  refine ZhY.mk ?_
  refine⟨rfl,Nat.le_refl _,fun t ht=> ?_,hc,fun _ _=> rfl⟩
  simp only[zt];repeat (rw[if_neg (by omega)])
 |succ k ih=>
  intro i A A' f nb g d hk hi h f0 f10 f72 f73 f74 hc
  have hil:i < apps.length:=by omega
  have ek:apps.length - (i+1)=k:=by omega
  have hg:apps[i]?=some apps[i]:=List.getElem?_eq_getElem hil
  rw[List.drop_eq_getElem_cons hil] at h
  generalize apps[i]=p at hg h
  have hne:apps≠[]:=fun hh=> by rw[hh] at hil;cases hil
  obtain⟨oa,rfl⟩:=hA hne
  obtain⟨vm,vu,hc⟩:=hc
  unfold ZEI at h
  split at h
  ·rename_i A1 ha
   have hlo:=hc.lo
   rw[zAx]
   simp(disch:=first|assumption|decide|omega)[f73,f74,hil]
   refine ZhY.seq (P:=fun f' nb' g'=> nb≤nb'∧f' 74=nv (i+1)∧(∀t,t < 12∨t=72∨t=73→f' t=f t)∧(∃vm vu,CL I lo n m (.vs (prs apps) apps.length 2 oa) A1 vm vu nb' g')∧∀r,r < lo→g' r=g r) ?_ ?_
   ·rw[zch]
    refine ZhY.seq (P:=fun f' nb' g'=> nb≤nb'∧(∀t,t < 12∨t=72∨t=73∨t=74→f' t=f t)∧(∃vm vu,CL I lo n m (.vs (prs apps) apps.length 2 oa) A1 vm vu nb' g')∧∀r,r < lo→g' r=g r) ?_ ?_
    ·rw[zjN]
     refine ZhY.block (Q:=fun e f' nb' g'=> e=.normal∧nb≤nb'∧(∀t,t < 12∨t=72∨t=73∨t=74→f' t=f t)∧(∃vm vu,CL I lo n m (.vs (prs apps) apps.length 2 oa) A1 vm vu nb' g')∧∀r,r < lo→g' r=g r) ?_ (fun _ _ _ hq=> by cases hq.1) (fun _ _ _ _ _ hq=> hq)
     rw[zci]
     have h4:=zjj hg
     refine ZhY.seq (P:=fun f' nb' g'=> nb'=nb+1∧f' 12=nv i∧f' 13=.ptr nb 0∧(∀t,t < 12∨t=72∨t=73∨t=74→f' t=f t)∧g' nb=.row 0 [nv p.1,nv p.2]∧∀r,r < nb→g' r=g r) ?_ ?_
     ·simp(disch:=first|assumption|decide|omega)[f72,f74,h4]
      refine ZhY.mk ?_
      refine⟨rfl,rfl,by simp,by simp,fun t ht=> ?_,by simp,fun r hr=> ?_⟩
      ·simp only[zt];repeat (rw[if_neg (by omega)])
      ·have x1:¬r=nb:=by omega
       simp only[atB,at1,if_neg x1]
     ·rintro f1 nb1 g1 d1 ⟨rfl,f12,f13,ft1,gp,gr⟩
      have c1:=hc.grow (nb':=nb+1) (g':=g1) (by omega) (fun r hr _=> gr r hr)
      have hpI:nb∉I.all:=fun hh=> by have:=(hc.lt _ hh).2;omega
      rw[zjO]
      refine ZhY.seq (P:=fun f' nb' g'=> nb'=nb+1∧f' 13=.ptr nb 0∧f' 14=nv (m+i)∧(∀t,t < 12∨t=72∨t=73∨t=74→f' t=f t)∧g'=g1) ?_ ?_
      ·have e0:=ft1 0 (by omega)
       rw[f0] at e0
       simp(disch:=first|assumption|decide|omega)[e0,f12]
       refine ZhY.mk ?_
       refine⟨rfl,rfl,by simp[f13],by simp,fun t ht=> ?_,rfl⟩
       simp only[zt];repeat (rw[if_neg (by omega)])
       exact ft1 t ht
      ·rintro f2 nb2 g2 d2 ⟨hb,b13,b14,ft2,hgg⟩
       have hb:=hb.symm
       have hgg:=hgg.symm
       subst hb hgg
       unfold ZFL at ha
       split at ha
       ·rename_i x y hx hy
        split at ha
        ·rename_i ux e1
         split at ha
         ·rename_i hl1
          split at ha
          ·rename_i uy e2
           split at ha
           ·rename_i hl2
            have hxn:x < n:=by rw[←hc.ku];exact(List.getElem?_eq_some_iff.1 e1).1
            have hyn:y < n:=by rw[←hc.ku];have:=(List.getElem?_eq_some_iff.1 e2).1;rw[List.length_set] at this;exact this
            have kx:x < vu.length:=by rw[hc.lu];exact hxn
            have v1:vu[x]?=some vu[x]:=List.getElem?_eq_getElem kx
            generalize vu[x]=wx at v1
            have s1:=c1.su x _ _ v1 e1
            have lt1:∀r∈I.all,r < nb+1:=fun r hr=> (c1.lt r hr).2
            rw[zjP]
            refine ZhY.seq (zZj (cls:=A.cls) ((ft2 10 (by omega)).trans f10) b13 b14 gp (by omega) hpI c1.c c1.rc c1.lc hx c1.ru c1.lu v1 (ZE8 s1 (zyx _) hl1) s1.cell c1.nd c1.lo lt1) ?_
            rintro f3 nb3 g3 d3 ⟨b3,t3,p3⟩
            have r3:=p3.fr
            obtain⟨w1,tw1,c3⟩:=c1.setuse b3 v1 p3
            have low3:∀r,r < lo→g3 r=g1 r:=fun r hr=> r3 r (by omega) (fun hx=> by
             rcases List.mem_cons.1 hx with rfl|hx
             ·have:=c1.lt I.ru (by simp[Ids.all]);omega
             ·cases ho:ZCj wx with
              |none=> rw[ho] at hx;cases hx
              |some r'=>
               rw[ho] at hx
               obtain rfl:=List.mem_singleton.1 hx
               have:=(s1.lt ho).1;omega)
            have gp3:g3 nb=.row 0 [nv p.1,nv p.2]:=by
             rw[r3 nb (by omega) (fun hx=> by
              rcases List.mem_cons.1 hx with hx|hx
              ·exact hpI (by rw[hx];simp[Ids.all])
              ·cases ho:ZCj wx with
               |none=> rw[ho] at hx;cases hx
               |some r'=>
                rw[ho] at hx
                obtain rfl:=List.mem_singleton.1 hx
                obtain⟨_,_,hw,q⟩:=s1.lt ho
                rw[gp] at q;cases q)]
             exact gp
            have ky:y < (vu.set x w1).length:=by rw[c3.lu];exact hyn
            have v2:(vu.set x w1)[y]?=some (vu.set x w1)[y]:=List.getElem?_eq_getElem ky
            generalize (vu.set x w1)[y]=wy at v2
            have s2:=c3.su y _ _ v2 e2
            have lt3:∀r∈I.all,r < nb3:=fun r hr=> (c3.lt r hr).2
            rw[zjQ]
            refine ZhY.seq (zZk (cls:=A.cls) (((t3 10 (by omega)).trans (ft2 10 (by omega))).trans f10) ((t3 13 (by omega)).trans b13) ((t3 14 (by omega)).trans b14) gp3 (by omega) hpI c3.c c3.rc c3.lc hy c3.ru c3.lu v2 (ZE8 s2 (zyx _) hl2) s2.cell c3.nd c3.lo lt3) ?_
            rintro f4 nb4 g4 d4 ⟨b4,t4,p4⟩
            have r4:=p4.fr
            obtain⟨w2,tw2,c4⟩:=c3.setuse b4 v2 p4
            have low4:∀r,r < lo→g4 r=g3 r:=fun r hr=> r4 r (by omega) (fun hx=> by
             rcases List.mem_cons.1 hx with rfl|hx
             ·have:=c3.lt I.ru (by simp[Ids.all]);omega
             ·cases ho:ZCj wy with
              |none=> rw[ho] at hx;cases hx
              |some r'=>
               rw[ho] at hx
               obtain rfl:=List.mem_singleton.1 hx
               have:=(s2.lt ho).1;omega)
            have y10:=(t4 10 (by omega)).trans (((t3 10 (by omega)).trans (ft2 10 (by omega))).trans f10)
            have y14:=(t4 14 (by omega)).trans ((t3 14 (by omega)).trans b14)
            simp(disch:=first|assumption|decide|omega)[y10,y14]
            refine zOP (zXz (fun _=> ⟨oa,rfl⟩) hn hmn hal c4 ha) ?_
            rintro v nb5 g5 d5 ⟨q1,q2,q3⟩
            simp(disch:=first|assumption|decide|omega)
            refine ZhY.mk ?_
            refine⟨rfl,by omega,fun t ht=> ?_,q2,fun r hr=> ?_⟩
            ·simp only[zt];repeat (rw[if_neg (by omega)])
             rw[t4 t (by omega),t3 t (by omega),ft2 t ht]
            ·rw[q3 r hr,low4 r hr,low3 r hr,gr r (by omega)]
           ·cases ha
          ·cases ha
         ·cases ha
        ·cases ha
       ·cases ha
    ·rintro f1 nb1 g1 d1 ⟨b1,t1,c1,low1⟩
     have e74:=t1 74 (by omega)
     rw[f74] at e74
     simp(disch:=first|assumption|decide|omega)[e74]
     refine ZhY.mk ?_
     refine⟨rfl,b1,by simp,fun t ht=> ?_,c1,low1⟩
     simp only[zt];repeat (rw[if_neg (by omega)])
     exact t1 t (by omega)
   ·rintro f1 nb1 g1 d1 ⟨b1,e74,t1,c1,low1⟩
    refine(ih (i+1) A1 A' f1 nb1 g1 d1 ek hil h ((t1 0 (by omega)).trans f0) ((t1 10 (by omega)).trans f10) ((t1 72 (by omega)).trans f72) ((t1 73 (by omega)).trans f73) e74 c1).weak ?_
    rintro e f' nb' g' ⟨rfl,q1,q2,q3,q4⟩
    exact⟨rfl,by omega,fun t ht=> (q2 t ht).trans (t1 t (by omega)),q3,fun r hr=> (q4 r hr).trans (low1 r hr)⟩
  ·cases h
end
section
attribute [local simp] ld3 ZC2 ZCB ZEe ZCG ZDP ZEf ZDp ZCN ZCP ZCK ZDo ZDZ ZDN ZCH JR JS sz3 ZCR ZCx ZD8 ZCz ZDr sp2 sp3 JY JX ltN add1 gtN eqN neN gt0 ZDT addN za0 za1 zac JO ZFE ZFF zdg ZEE zdf zji ZGa
attribute [-simp] zo zr zq zz zA zB zck zdu zK zL
def ZEg (m:Nat) (apps:List Key) (fu:Nat) (used:Nat→Bool):List Key→Nat→Cl→Option Cl
 |[],_,A=> some A
 |p::l,i,A=> if used i=true then match ZEj m apps fu A [(p.1,p.2,(i:Int))] with
   |some A'=> ZEg m apps fu used l (i+1) A'
   |none=> none
  else ZEg m apps fu used l (i+1) A
def ZFJ (lo:Nat) (g0:Nat→Blk) (u:V) (used:Nat→Bool) (len:Nat):Prop:=∀(i:Nat) (N:Nat) (G:Nat→Blk) (D:List Nat),i < len→lo≤N→(∀r,r < lo→G r=g0 r)→ZDX Tryz.prog hs ks (ZFa u [nv i]) (mkH N G D)=some [(.ret (.bool (used i)),mkH N G D)]
set_option maxHeartbeats 2000000 in
theorem zXL {I:Ids} {lo n m fu:Nat} {apps merges:List Key} {av mv u:V} {used:Nat→Bool} {g0:Nat→Blk} (hA:apps≠[]→∃o,av=.vs (prs apps) apps.length 2 o) (hM:merges≠[]→∃o,mv=.vs (prs merges) merges.length 2 o) (hn:n < 100000) (hmn:m≤n) (hal:apps.length=n - m) (hml:merges.length < 100000) (hU:ZFJ lo g0 u used merges.length):∀(k i:Nat) (A A':Cl) (f:Nat→V) (nb:Nat) (g:Nat→Blk) (d:List Nat),merges.length - i=k→i≤merges.length→ZEg m apps fu used (merges.drop i) i A=some A'→
 f 3=u→f 10=.ptr I.c 0→f 146=mv→f 147=nv merges.length→f 148=nv i→(∃vm vu,CL I lo n m av A vm vu nb g)→(∀r,r < lo→g r=g0 r)→
 ZhY 166 (fun e f' nb' g'=> e=.exit 4∧nb≤nb'∧(∀t,t < 12→f' t=f t)∧(∃vm vu,CL I lo n m av A' vm vu nb' g')∧∀r,r < lo→g' r=g r) (C 22 zjR (S 166 f [] (mkH nb g d))):=by
 intro k
 induction k with
 |zero=>
  intro i A A' f nb g d hk hi h f3 f10 f146 f147 f148 hc hg0
  obtain rfl:i=merges.length:=by omega
  rw[List.drop_length] at h
  obtain rfl:A=A':=Option.some.inj h
  rw[zAA]
  simp(disch:=first|assumption|decide|omega)[f147,f148]
  refine ZhY.mk ?_
  refine⟨rfl,Nat.le_refl _,fun t ht=> ?_,hc,fun _ _=> rfl⟩
  simp only[zt];repeat (rw[if_neg (by omega)])
 |succ k ih=>
  intro i A A' f nb g d hk hi h f3 f10 f146 f147 f148 hc hg0
  have hil:i < merges.length:=by omega
  have ek:merges.length - (i+1)=k:=by omega
  have hg:merges[i]?=some merges[i]:=List.getElem?_eq_getElem hil
  rw[List.drop_eq_getElem_cons hil] at h
  generalize merges[i]=p at hg h
  have hne:merges≠[]:=fun hh=> by rw[hh] at hil;cases hil
  obtain⟨oa,rfl⟩:=hM hne
  obtain⟨vm,vu,hc⟩:=hc
  have hlo:=hc.lo
  unfold ZEg at h
  obtain⟨A1,hA1,h⟩:∃A1,(if used i=true then ZEj m apps fu A [(p.1,p.2,(i:Int))] else some A)=some A1∧ZEg m apps fu used (merges.drop (i+1)) (i+1) A1=some A':=by
   split at h
   ·rename_i hu
    split at h
    ·rename_i A1 hr;exact⟨A1,by rw[if_pos hu];exact hr,h⟩
    ·cases h
   ·rename_i hu;exact⟨A,by rw[if_neg hu],h⟩
  rw[zAA]
  simp(disch:=first|assumption|decide|omega)[f147,f148,hil]
  refine ZhY.seq (P:=fun f' nb' g'=> nb≤nb'∧f' 148=nv (i+1)∧(∀t,t < 12∨t=146∨t=147→f' t=f t)∧(∃vm vu,CL I lo n m av A1 vm vu nb' g')∧∀r,r < lo→g' r=g r) ?_ ?_
  ·rw[zck]
   refine ZhY.seq (P:=fun f' nb' g'=> nb≤nb'∧(∀t,t < 12∨t=146∨t=147∨t=148→f' t=f t)∧(∃vm vu,CL I lo n m av A1 vm vu nb' g')∧∀r,r < lo→g' r=g r) ?_ ?_
   ·rw[zjS]
    refine ZhY.block (Q:=fun e f' nb' g'=> e=.normal∧nb≤nb'∧(∀t,t < 12∨t=146∨t=147∨t=148→f' t=f t)∧(∃vm vu,CL I lo n m av A1 vm vu nb' g')∧∀r,r < lo→g' r=g r) ?_ (fun _ _ _ hq=> by cases hq.1) (fun _ _ _ _ _ hq=> hq)
    rw[zdu]
    have h4:=zjj hg
    refine ZhY.seq (P:=fun f' nb' g'=> nb'=nb+1∧f' 15=nv i∧f' 16=.ptr nb 0∧(∀t,t < 12∨t=146∨t=147∨t=148→f' t=f t)∧g' nb=.row 0 [nv p.1,nv p.2]∧∀r,r < nb→g' r=g r) ?_ ?_
    ·simp(disch:=first|assumption|decide|omega)[f146,f148,h4]
     refine ZhY.mk ?_
     refine⟨rfl,rfl,by simp,by simp,fun t ht=> ?_,by simp,fun r hr=> ?_⟩
     ·simp only[zt];repeat (rw[if_neg (by omega)])
     ·have x1:¬r=nb:=by omega
      simp only[atB,at1,if_neg x1]
    ·rintro f1 nb1 g1 d1 ⟨rfl,f15,f16,ft1,gp,gr⟩
     have c1:=hc.grow (nb':=nb+1) (g':=g1) (by omega) (fun r hr _=> gr r hr)
     have b3:=(ft1 3 (by omega)).trans f3
     have b10:=(ft1 10 (by omega)).trans f10
     have hcall:=hU i (nb+1) g1 d1 hil (by omega) (fun r hr=> (gr r (by omega)).trans (hg0 r hr))
     by_cases hu:used i=true
     ·rw[if_pos hu] at hA1
      rw[hu] at hcall
      simp(disch:=first|assumption|decide|omega)[b3,b10,f15,f16,gp,hcall]
      refine zOP (zOu hA hn hmn hal (s:=(p.1,p.2,(i:Int))) c1 hA1) ?_
      rintro v nb5 g5 d5 ⟨q1,q2,q3⟩
      simp(disch:=first|assumption|decide|omega)
      refine ZhY.mk ?_
      refine⟨rfl,by omega,fun t ht=> ?_,q2,fun r hr=> ?_⟩
      ·simp only[zt];repeat (rw[if_neg (by omega)])
       exact ft1 t ht
      ·rw[q3 r hr,gr r (by omega)]
     ·rw[if_neg hu] at hA1
      obtain rfl:A=A1:=Option.some.inj hA1
      have hu':used i=false:=by simpa using hu
      rw[hu'] at hcall
      simp(disch:=first|assumption|decide|omega)[b3,b10,f15,f16,gp,hcall]
      refine ZhY.mk ?_
      refine⟨rfl,by omega,fun t ht=> ?_,⟨vm,vu,c1⟩,fun r hr=> gr r (by omega)⟩
      simp only[zt];repeat (rw[if_neg (by omega)])
      exact ft1 t ht
   ·rintro f1 nb1 g1 d1 ⟨b1,t1,c1,low1⟩
    have e148:=t1 148 (by omega)
    rw[f148] at e148
    simp(disch:=first|assumption|decide|omega)[e148]
    refine ZhY.mk ?_
    refine⟨rfl,b1,by simp,fun t ht=> ?_,c1,low1⟩
    simp only[zt];repeat (rw[if_neg (by omega)])
    exact t1 t (by omega)
  ·rintro f1 nb1 g1 d1 ⟨b1,e148,t1,c1,low1⟩
   refine(ih (i+1) A1 A' f1 nb1 g1 d1 ek hil h ((t1 3 (by omega)).trans f3) ((t1 10 (by omega)).trans f10) ((t1 146 (by omega)).trans f146) ((t1 147 (by omega)).trans f147) e148 c1 (fun r hr=> (low1 r hr).trans (hg0 r hr))).weak ?_
   rintro e f' nb' g' ⟨rfl,q1,q2,q3,q4⟩
   exact⟨rfl,by omega,fun t ht=> (q2 t ht).trans (t1 t (by omega)),q3,fun r hr=> (q4 r hr).trans (low1 r hr)⟩
end
section
attribute [local simp] ld3 ZC2 ZCB ZEe ZCG ZDP ZEf ZDp ZCN ZCP ZCK ZDo ZDZ ZDN ZCH JR JS sz3 ZCR ZCx ZD8 ZCz ZDr sp2 sp3 JY JX ltN add1 gtN eqN neN gt0 ZDT addN za0 za1 zac JO ZFE ZFF zdg ZEE zdf zji ZGa
attribute [-simp] zo zr zq zz zA zB zdt zdw zdx zdo zdp zds zdr zdq zdv zdn
theorem ZJE:bytesOf Tryz.prog 27=24:=by kernel_rfl
theorem ZKm:zeroOf Tryz.prog 27=some .nils:=by kernel_rfl
theorem zOo:∀n,ZDw [V.nils] n=List.replicate n .nils
 |0=> rfl
 |n+1=> by show[V.nils]++ZDw [V.nils] n=_;rw[zOo n,List.replicate_succ];rfl
theorem ZJO {n nid:Nat} (hn:n < 100000):mkS Tryz.prog 27 nid (nv n) (nv n)=some {v:=.hs nid 0 n n 1 true,nw:=[.row 0 (List.replicate n .nils)]}:=by
 unfold mkS
 simp only[asI]
 unfold ZE6
 rw[ZJE,ZGZ,ZCz,ZKm]
 rw[if_pos ⟨by omega,by omega,by omega,by omega,rfl⟩]
 by_cases h0:n=0
 ·subst h0;rfl
 ·simp[h0,JO,zOo]
theorem ZJC (a b c d e:V):ZFN Tryz.prog 82 [(0,[a]),(1,[b]),(3,[c]),(4,[d]),(5,[e])]=some (.agg [a,b,.nils,c,d,e,.nils,.nils]):=by kernel_rfl
theorem zPR {r:Nat}:V.cells (.map r)=[.map r]:=rfl
def cl0 (n:Nat):Cl:={cls:=List.range n,mem:=(List.range n).map fun i=> [i],use:=List.replicate n [],tab:=[],nxt:=List.replicate n none,why:=List.replicate n (0,0,0)}
def ZEF (apps merges:List Key) (m fu:Nat) (used:Nat→Bool):Option Cl:=
 match ZEI m apps fu apps 0 (cl0 (m+apps.length)) with
 |some A=> ZEg m apps fu used merges 0 A
 |none=> none
theorem IN.cl {c rm ru rt lo n m rc rn rw nb:Nat} {av:V} {g:Nat→Blk} (h:IN c rm ru rt lo n m av n rc rn rw nb g) (hn:n≠0):CL ⟨c,rc,rm,ru,rt,rn,rw⟩ lo n m av (cl0 n) (ZD0 n n) (List.replicate n .nils) nb g:=by
 obtain⟨q1,q2,q3⟩:=h.rows hn
 have hf:∀r z,fld n r z=.hs r 0 n n z false:=fun r z=> by cases n with|zero=> exact absurd rfl hn|succ n=> rfl
 have e0:ZD0 n n=(List.range n).map (fun (j:Nat)=> V.vs [nv j] 1 1 .tight):=by unfold ZD0;simp
 have tm:∀i,((ZD0 n n)[i]?).bind ZCj=none:=fun i=> by
  rw[e0,List.getElem?_map]
  cases(List.range n)[i]? <;> rfl
 have tu:∀i,((List.replicate n V.nils)[i]?).bind ZCj=none:=fun i=> by
  rw[List.getElem?_replicate]
  split <;> rfl
 refine⟨by have:=h.fc;rw[hf,hf,hf] at this;exact this,q1,h.fm,h.fu,⟨0,h.ft⟩,q2,q3,by simp[cl0],by rw[e0];simp,by simp,by simp[cl0],by simp[cl0],by simp[cl0],by simp[cl0],by simp[cl0],h.nd2 hn,fun r hr=> ?_,fun i v l h1 h2=> ?_,fun i v l h1 h2=> ?_,fun a b i j r h1=> ?_⟩
 ·simp only[Ids.all,List.mem_cons,List.not_mem_nil,or_false] at hr
  have a1:=h.lt
  have a2:=h.lt2 hn
  simp only[List.mem_cons,List.not_mem_nil,or_false] at a1 a2
  rcases hr with rfl|rfl|rfl|rfl|rfl|rfl|rfl
  ·exact a1 _ (by simp)
  ·exact a2 _ (by simp)
  ·exact a1 _ (by simp)
  ·exact a1 _ (by simp)
  ·exact a1 _ (by simp)
  ·exact a2 _ (by simp)
  ·exact a2 _ (by simp)
 ·rw[e0,List.getElem?_map] at h1
  simp only[cl0,List.getElem?_map] at h2
  cases hi:(List.range n)[i]? with
  |none=> rw[hi] at h1;cases h1
  |some j=>
   rw[hi] at h1 h2
   cases h1;cases h2
   exact .inr (.inl rfl)
 ·rw[List.getElem?_replicate] at h1
  simp only[cl0,List.getElem?_replicate] at h2
  by_cases hi:i < n
  ·rw[if_pos hi] at h1 h2
   cases h1;cases h2
   exact .inl ⟨rfl,rfl⟩
  ·rw[if_neg hi] at h1;cases h1
 ·cases a
  ·have h1:((List.replicate n V.nils)[i]?).bind ZCj=some r:=h1
   rw[tu i] at h1;cases h1
  ·have h1:((ZD0 n n)[i]?).bind ZCj=some r:=h1
   rw[tm i] at h1;cases h1
structure NewR (n m:Nat) (av:V) (A':Cl) (nb:Nat) (g:Nat→Blk) (c nb':Nat) (g':Nat→Blk):Prop where
 le:nb≤nb'
 some:n≠0→∃I vm vu,I.c=c∧CL I nb n m av A' vm vu nb' g'
 none:n=0→c < nb'∧∃rest,g' c=.row 0 (nv m::av::.nils::rest)
 low:∀r,r < nb→g' r=g r
set_option maxHeartbeats 4000000 in
theorem zXV {m fu:Nat} {apps merges:List Key} {av mv u:V} {used:Nat→Bool} {A':Cl} {nb:Nat} {g:Nat→Blk} {d:List Nat} (hA:apps≠[]→∃o,av=.vs (prs apps) apps.length 2 o) (hM:merges≠[]→∃o,mv=.vs (prs merges) merges.length 2 o)
 (hAl:∀get nid,ZmL Tryz.prog false get nid .len [22] [av]=some {v:=nv apps.length}) (hMl:∀get nid,ZmL Tryz.prog false get nid .len [22] [mv]=some {v:=nv merges.length}) (ca:V.cells av=[av])
 (hn:m+apps.length < 100000) (hml:merges.length < 100000) (h0:m+apps.length=0→merges=[]) (hU:ZFJ nb g u used merges.length) (hr:ZEF apps merges m fu used=some A'):
 ZCm (fun v nb' g'=> ∃c,v=.ptr c 0∧NewR (m+apps.length) m av A' nb g c nb' g') ((EV Tryz.prog hs ks).call 22 [nv m,av,mv,u] (mkH nb g d)):=by
 rw[zRn _ (by simp),zjT]
 unfold ZEF at hr
 obtain⟨A1,hr1,hr2⟩:∃A1,ZEI m apps fu (apps.drop 0) 0 (cl0 (m+apps.length))=some A1∧ZEg m apps fu used (merges.drop 0) 0 A1=some A':=by
  rw[List.drop_zero,List.drop_zero]
  split at hr
  ·rename_i A1 h;exact⟨A1,h,hr⟩
  ·cases hr
 clear hr
 generalize hN:m+apps.length=n at *
 refine ZhY.rets (n:=166) (Q:=fun e f' nb' g'=> e=.ret∧∃c,f' 8=.ptr c 0∧NewR n m av A' nb g c nb' g') ?_ ?_
 ·refine ZhY.seq (P:=fun f' nb' g'=> nb'=nb∧g'=g∧f' 0=nv m∧f' 1=av∧f' 2=mv∧f' 3=u) ?_ ?_
  ·simp(disch:=first|assumption|decide|omega)
   refine ZhY.mk ?_
   exact⟨rfl,rfl,rfl,by simp,by simp,by simp,by simp⟩
  rintro f1 nb1 g1 d1 ⟨hb,hg,a0,a1,a2,a3⟩
  have hb:=hb.symm
  have hg:=hg.symm
  subst hb hg
  rw[zjK]
  have hadd:ZmK .add .i64 (m:Int) .i64 (apps.length:Int)=some (nv n):=by rw[addN (by omega),hN]
  refine ZhY.seq (P:=fun f' nb' g'=> nb'=nb∧g'=g∧f' 0=nv m∧f' 1=av∧f' 2=mv∧f' 3=u∧f' 9=nv n) ?_ ?_
  ·simp(disch:=first|assumption|decide|omega)[a0,a1,hAl,hadd]
   refine ZhY.mk ?_
   exact⟨rfl,rfl,rfl,by simp[a0],by simp[a1],by simp[a2],by simp[a3],by simp⟩
  rintro f2 nb2 g2 d2 ⟨hb,hg,b0,b1,b2,b3,b9⟩
  have hb:=hb.symm
  have hg:=hg.symm
  subst hb hg
  rw[zjM]
  refine ZhY.seq (P:=fun f' nb' g'=> nb'=nb+1+1+1+1∧(∀r,r < nb→g' r=g r)∧f' 0=nv m∧f' 1=av∧f' 2=mv∧f' 3=u∧f' 9=nv n∧f' 10=.ptr (nb+1+1+1) 0∧IN (nb+1+1+1) nb (nb+1) (nb+1+1) nb n m av 0 0 0 0 (nb+1+1+1+1) g') ?_ ?_
  ·have hmk (nid:Nat):=ZJO (n:=n) (nid:=nid) hn
   simp(disch:=first|assumption|decide|omega)[b0,b1,b9,hmk,ZJC,ca,zPR]
   refine ZhY.mk ?_
   refine⟨rfl,rfl,fun r hr=> ?_,by simp[b0],by simp[b1],by simp[b2],by simp[b3],by simp[b9],by simp,⟨?_,?_,?_,?_,fun hh=> absurd rfl hh,fun r hr=> ?_,fun hh=> absurd rfl hh,?_,fun hh=> absurd rfl hh⟩⟩
   ·have x1:¬r=nb:=by omega
    have x2:¬r=nb+1:=by omega
    have x3:¬r=nb+1+1:=by omega
    have x4:¬r=nb+1+1+1:=by omega
    simp only[atB,at1,if_neg x1,if_neg x2,if_neg x3,if_neg x4]
   ·simp(disch:=first|assumption|decide|omega)[fld]
   ·simp(disch:=first|assumption|decide|omega)[ZD0]
   ·simp(disch:=first|assumption|decide|omega)
   ·simp(disch:=first|assumption|decide|omega)
   ·simp only[List.mem_cons,List.not_mem_nil,or_false] at hr;omega
   ·simp;omega
  rintro f3 nb3 g3 d3 ⟨rfl,low3,c0,c1,c2,c3,c9,c10,hIN⟩
  rw[zdt]
  refine ZhY.seq (P:=fun f' nb' g'=> nb+1+1+1+1≤nb'∧(∀r,r < nb→g' r=g r)∧(∀t,t < 11→f' t=f3 t)∧∃rc rn rw,IN (nb+1+1+1) nb (nb+1) (nb+1+1) nb n m av n rc rn rw nb' g') ?_ ?_
  ·rw[zdv]
   refine ZhY.seq (P:=fun f' nb' g'=> nb'=nb+1+1+1+1∧g'=g3∧(∀t,t < 11→f' t=f3 t)∧f' 30=nv n∧f' 31=nv 0) ?_ ?_
   ·simp(disch:=first|assumption|decide|omega)[c9]
    refine ZhY.mk ?_
    refine⟨rfl,rfl,rfl,fun t ht=> ?_,by simp,by simp⟩
    simp only[zt];repeat (rw[if_neg (by omega)])
   rintro f4 nb4 g4 d4 ⟨rfl,hg,t4,f30,f31⟩
   have hg:=hg.symm
   subst hg
   rw[zdx]
   refine(zRa (nb+1+1+1) nb (nb+1) (nb+1+1) nb n m av hn n 0 0 0 0 f4 (nb+1+1+1+1) g3 d4 rfl (Nat.zero_le _) ((t4 10 (by omega)).trans c10) f30 f31 hIN).block ?_ ?_
   ·rintro f5 nb5 g5 ⟨_,q1,q2,q3,q4⟩
    exact⟨rfl,q1,fun r hr=> (q4 r hr).trans (low3 r hr),fun t ht=> (q2 t ht).trans (t4 t ht),q3⟩
   ·rintro e f5 nb5 g5 hne ⟨rfl,_⟩;exact absurd rfl hne
  rintro f4 nb4 g4 d4 ⟨b4,low4,t4,rc,rn,rw',hI4⟩
  have z0:=(t4 0 (by omega)).trans c0
  have z1:=(t4 1 (by omega)).trans c1
  have z2:=(t4 2 (by omega)).trans c2
  have z3:=(t4 3 (by omega)).trans c3
  have z10:=(t4 10 (by omega)).trans c10
  rw[zdw]
  refine ZhY.seq (P:=fun f' nb' g'=> nb≤nb'∧(∀r,r < nb→g' r=g r)∧f' 2=mv∧f' 3=u∧f' 10=.ptr (nb+1+1+1) 0∧(n≠0→∃vm vu,CL ⟨nb+1+1+1,rc,nb,nb+1,nb+1+1,rn,rw'⟩ nb n m av A1 vm vu nb' g')∧(n=0→nb+1+1+1 < nb'∧∃rest,g' (nb+1+1+1)=.row 0 (nv m::av::.nils::rest))) ?_ ?_
  ·rw[zdn]
   refine ZhY.seq (P:=fun f' nb' g'=> nb'=nb4∧g'=g4∧(∀t,t < 12→f' t=f4 t)∧f' 72=av∧f' 73=nv apps.length∧f' 74=nv 0) ?_ ?_
   ·simp(disch:=first|assumption|decide|omega)[z1,hAl]
    refine ZhY.mk ?_
    refine⟨rfl,rfl,rfl,fun t ht=> ?_,by simp,by simp,by simp⟩
    simp only[zt];repeat (rw[if_neg (by omega)])
   rintro f5 nb5 g5 d5 ⟨hb,hg,t5,f72,f73,f74⟩
   have hb:=hb.symm
   have hg:=hg.symm
   subst hb hg
   rw[zdp]
   by_cases hn0:n=0
   ·have hap:apps.length=0:=by omega
    rw[hap] at f73
    rw[zAx]
    have hlt:ZmK .lss .i64 0 .i64 0=some (.bool false):=rfl
    simp(disch:=first|assumption|decide|omega)[f73,f74,hlt]
    refine ZhY.mk ?_
    refine⟨rfl,by omega,low4,by simp[t5,z2],by simp[t5,z3],by simp[t5,z10],fun hh=> absurd hn0 hh,fun _=> ⟨by omega,?_⟩⟩
    have:=hI4.fc
    rw[this,hn0]
    exact⟨_,rfl⟩
   ·refine(zPv (I:=⟨nb+1+1+1,rc,nb,nb+1,nb+1+1,rn,rw'⟩) (lo:=nb) hA hn (by omega) (by omega) apps.length 0 (cl0 n) A1 f5 nb4 g4 d5 rfl (Nat.zero_le _) hr1 ((t5 0 (by omega)).trans z0) ((t5 10 (by omega)).trans z10) f72 f73 f74 ⟨_,_,hI4.cl hn0⟩).block ?_ ?_
    ·rintro f6 nb6 g6 ⟨_,q1,q2,q3,q4⟩
     exact⟨rfl,by omega,fun r hr=> (q4 r hr).trans (low4 r hr),((q2 2 (by omega)).trans (t5 2 (by omega))).trans z2,((q2 3 (by omega)).trans (t5 3 (by omega))).trans z3,((q2 10 (by omega)).trans (t5 10 (by omega))).trans z10,fun _=> q3,fun hh=> absurd hh hn0⟩
    ·rintro e f5 nb5 g5 hne ⟨rfl,_⟩;exact absurd rfl hne
  rintro f5 nb5 g5 d5 ⟨b5,low5,y2,y3,y10,cs5,cn5⟩
  rw[zdo]
  refine ZhY.seq (P:=fun f' nb' g'=> nb≤nb'∧(∀r,r < nb→g' r=g r)∧f' 10=.ptr (nb+1+1+1) 0∧(n≠0→∃vm vu,CL ⟨nb+1+1+1,rc,nb,nb+1,nb+1+1,rn,rw'⟩ nb n m av A' vm vu nb' g')∧(n=0→nb+1+1+1 < nb'∧∃rest,g' (nb+1+1+1)=.row 0 (nv m::av::.nils::rest))) ?_ ?_
  ·rw[zdq]
   refine ZhY.seq (P:=fun f' nb' g'=> nb'=nb5∧g'=g5∧(∀t,t < 12→f' t=f5 t)∧f' 146=mv∧f' 147=nv merges.length∧f' 148=nv 0) ?_ ?_
   ·simp(disch:=first|assumption|decide|omega)[y2,hMl]
    refine ZhY.mk ?_
    refine⟨rfl,rfl,rfl,fun t ht=> ?_,by simp,by simp,by simp⟩
    simp only[zt];repeat (rw[if_neg (by omega)])
   rintro f6 nb6 g6 d6 ⟨hb,hg,t6,f146,f147,f148⟩
   have hb:=hb.symm
   have hg:=hg.symm
   subst hb hg
   rw[zds]
   by_cases hn0:n=0
   ·have hm0:=h0 hn0
    rw[hm0] at f147
    rw[zAA]
    have hlt:ZmK .lss .i64 0 .i64 0=some (.bool false):=rfl
    simp(disch:=first|assumption|decide|omega)[f147,f148,hlt]
    refine ZhY.mk ?_
    exact⟨rfl,b5,low5,by simp[t6,y10],fun hh=> absurd hn0 hh,cn5⟩
   ·refine(zXL (I:=⟨nb+1+1+1,rc,nb,nb+1,nb+1+1,rn,rw'⟩) (lo:=nb) (g0:=g) hA hM hn (by omega) (by omega) hml hU merges.length 0 A1 A' f6 nb5 g5 d6 rfl (Nat.zero_le _) hr2 ((t6 3 (by omega)).trans y3) ((t6 10 (by omega)).trans y10) f146 f147 f148 (cs5 hn0) low5).block ?_ ?_
    ·rintro f7 nb7 g7 ⟨_,q1,q2,q3,q4⟩
     exact⟨rfl,by omega,fun r hr=> (q4 r hr).trans (low5 r hr),((q2 10 (by omega)).trans (t6 10 (by omega))).trans y10,fun _=> q3,fun hh=> absurd hh hn0⟩
    ·rintro e f5 nb5 g5 hne ⟨rfl,_⟩;exact absurd rfl hne
  rintro f6 nb6 g6 d6 ⟨b6,low6,x10,cs6,cn6⟩
  rw[zdr]
  simp(disch:=first|assumption|decide|omega)[x10]
  refine ZhY.mk ?_
  exact⟨rfl,_,by simp,b6,fun hh=> by obtain⟨vm,vu,hc⟩:=cs6 hh;exact⟨_,vm,vu,rfl,hc⟩,cn6,low6⟩
 ·rintro e f' nb' g' d' ⟨rfl,c,h8,q⟩
  rw[zjU]
  simp(disch:=first|assumption|decide|omega)[h8]
  refine ZCm.mk ?_
  exact⟨c,rfl,q⟩
end
end
end Go.Proofs.YtdlaladdeelegaaGreat.Cg
end
