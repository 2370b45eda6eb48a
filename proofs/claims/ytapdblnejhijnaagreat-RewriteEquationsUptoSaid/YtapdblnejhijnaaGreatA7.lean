/- The abstract evaluator: what it says is so. -/
import Derived.Test.YtapdblnejhijnaaGreatA6
import Derived.OrdersIn
import Derived.RecoverIn
set_option linter.all false
noncomputable section
namespace Go.Ae
section
section
variable {P:Program}
theorem zQL {f:FuncId} {args:List V} {h:H} {rs:List Nat} {v:V} {h1:H} (hr:reach h.get 1000 (V.idss args) []=some rs) (a2:∀r∈rs,r < h.n) (a3:h.n < 2 ^ 20)
 (hok:ZDt P f args (H.only h.get h.n rs) [(.ret v,h1)]) (hgrow:Grow (H.only h.get h.n rs) h1) (a5:h.n≤h1.n) (a6:∀r∈h1.dirty,h.n≤r∨r∈rs)
 (a7:∀r∈rs,∀es ver,h1.get r=.map es ver→∃es' ver',h.get r=.map es' ver'):ZDt P f args h [(.ret v,(ZEB rs v h1 h.n).apply h)]:=by
 intro g xs w hwf hW hv
 obtain⟨_,s2,s3⟩:=zjk 1000 hr
 have hcl:∀r∈rs,(h.get r).plain=true∧∀i∈(h.get r).ids,i∈rs:=fun r hr=> (s3 r hr).resolve_left (by simp)
 obtain⟨o1,o2,o3⟩:=zyj (get:=h.get) a3 a2
 obtain⟨hA,hWi⟩:=zN8 hW (Nat.le_refl _) a2 hcl o3
 have hnw:(h1.from (h1.n - h.n) h.n).length=h1.n - h.n:=(zjy h1 _ _).1
 refine(hok g xs w o1 (by rw[o2];exact hWi) (by rw[o2];exact zjn hA (fun r hr=> s2 r hr) hv)).mono ?_
 rintro en w' ⟨x,p,hp,hen,g1,q1,q2,q3,q4⟩
 obtain rfl:=Qb hp
 rw[o2] at q3
 have hstay:∀j,j < h.n→j∉h1.dirty→h1.get j=(H.only h.get h.n rs).get j:=fun j hj hd=> hgrow.get o1 j (by rw[o2];exact hj) hd
 have hdom:∀j,j < h.n→j∉rs→h1.get j=.resv:=fun j hj hjr=> by
  rw[hstay j hj,o3 j hj,if_neg hjr]
  intro hd
  rcases a6 j hd with hh|hh
  ·omega
  ·exact hjr hh
 obtain⟨b1,b2,b3⟩:=zN6 hW (Nat.le_refl _) a2 o3 q2 q3 (zEb (h1.n - h.n)) hdom a7
 have hget:ZEP h.get h1.get rs h.n h1.n=(ZEB rs v h1 h.n).upd h.get h.n:=by
  funext j
  unfold ZEP Eff.upd ZEB
  rw[zdc,hnw]
  by_cases hj:h.n≤j∧j < h1.n
  ·rw[if_pos (.inl hj),if_pos (by omega),(zjy h1 _ _).2 _ (by omega),show h.n+(j - h.n)=j by omega]
  ·rw[if_neg (c:=h.n≤j∧j < h.n+(h1.n - h.n)) (by omega)]
   by_cases hjr:j∈rs
   ·rw[if_pos (.inr hjr)]
    by_cases hd:j∈h1.dirty
    ·rw[zC9 h1.get _ _ _ (fun p hp=> by obtain⟨r,_,rfl⟩:=List.mem_map.1 hp;rfl)]
     rw[List.map_map]
     exact List.mem_map.2 ⟨j,List.mem_filter.2 ⟨hjr,by simpa using hd⟩,rfl⟩
    ·rw[(zbZ _ _ _).1,hstay j (a2 j hjr) hd,o3 j (a2 j hjr),if_pos hjr]
     rw[List.map_map]
     intro hm
     obtain⟨r,hr,hre⟩:=List.mem_map.1 hm
     obtain rfl:r=j:=hre
     have:=(List.mem_filter.1 hr).2
     exact hd (by simpa using this)
   ·rw[if_neg (fun hh=> hh.elim hj hjr),(zbZ _ _ _).1]
    rw[List.map_map]
    intro hm
    obtain⟨r,hr,hre⟩:=List.mem_map.1 hm
    obtain rfl:r=j:=hre
    exact hjr (List.mem_filter.1 hr).1
 have htop:max h.n h1.n=(ZEB rs v h1 h.n).top h.n h.n:=by
  unfold Eff.top ZEB
  cases hl:h1.from (h1.n - h.n) h.n with
  |nil=> rw[hl] at hnw;simp only[List.length_nil] at hnw;simp only;omega
  |cons b l=> rw[hl] at hnw;simp only;rw[hnw];congr 1;omega
 rw[hget,htop] at b1 b2 b3
 obtain⟨k1,k2,k3⟩:=(ZEB rs v h1 h.n).apply_get hwf
 have k3':∀j,j < (ZEB rs v h1 h.n).top h.n h.n→(ZEB rs v h1 h.n).upd h.get h.n j=((ZEB rs v h1 h.n).apply h).get j:=fun j hj=> (k3 j (by rw[k2];exact hj)).symm
 refine⟨x,_,List.mem_singleton.2 rfl,hen,onG g g1 rs h.n h1.n,k1,?_,?_,?_⟩
 ·rw[k2];exact b2.congr k3'
 ·rw[k2];exact b3.congr (fun _ _=> rfl) k3'
 ·have h5:=Qv (Imm.le_refl _) b1 q4
  rw[k2,←zde k3']
  exact h5
theorem zy6 {h:H}:∀{k i:Nat} {ks:List Nat} {l:List Blk},ZFR h ks k i=some l→l.length=k∧(∀j∈ks,i≤j∧j < i+k)∧∀j,j < k→l.getD j .gone=if i+j∈ks then h.get (i+j) else .gone
 |0,i,[],l,hl=> by
  obtain rfl:=Option.some.inj hl
  exact⟨rfl,fun _ h=> (by cases h),fun j hj=> by omega⟩
 |0,i,_::_,l,hl=> by cases hl
 |k+1,i,[],l,hl=> by
  obtain rfl:=Option.some.inj hl
  refine⟨List.length_replicate,fun _ h=> (by cases h),fun j hj=> ?_⟩
  rw[if_neg (by simp),List.getD_eq_getElem?_getD,List.getElem?_replicate,if_pos hj]
  rfl
 |k+1,i,a::ks,l,hl=> by
  have hl:cond (Nat.beq a i)
   (match ZFR h ks k (i+1) with
    |some bs=> some (h.get i::bs)
    |none=> none)
   (match ZFR h (a::ks) k (i+1) with
    |some bs=> some (.gone::bs)
    |none=> none)=some l:=hl
  cases ha:Nat.beq a i with
  |true=>
   obtain rfl:=Nat.eq_of_beq_eq_true ha
   rw[ha,cond_true] at hl
   split at hl
   ·rename_i bs hb
    obtain rfl:=Option.some.inj hl
    obtain⟨h1,h2,h3⟩:=zy6 hb
    refine⟨by rw[List.length_cons,h1],fun j hj=> ?_,fun j hj=> ?_⟩
    ·rcases List.mem_cons.1 hj with rfl|hj
     ·omega
     ·have:=h2 j hj;omega
    ·cases j with
     |zero=> rw[if_pos (by simp)];rfl
     |succ j=>
      show bs.getD j .gone=_
      rw[h3 j (by omega),show a+1+j=a+(j+1) by omega]
      have:(a+(j+1)∈a::ks)↔a+(j+1)∈ks:=by
       rw[List.mem_cons]
       exact⟨fun h=> h.resolve_left (by omega),.inr⟩
      simp only[this]
   ·cases hl
  |false=>
   rw[ha,cond_false] at hl
   split at hl
   ·rename_i bs hb
    obtain rfl:=Option.some.inj hl
    obtain⟨h1,h2,h3⟩:=zy6 hb
    refine⟨by rw[List.length_cons,h1],fun j hj=> ?_,fun j hj=> ?_⟩
    ·have:=h2 j hj;omega
    ·cases j with
     |zero=>
      rw[if_neg]
      ·rfl
      ·intro hm
       have:=h2 _ hm
       omega
     |succ j=>
      show bs.getD j .gone=_
      rw[h3 j (by omega),show i+1+j=i+(j+1) by omega]
   ·cases hl
theorem zNN {a x:Nat}:∀{l:List Nat},x∈ZEW a l↔x=a∨x∈l
 |[]=> by simp[ZEW]
 |b::l=> by
  show x∈cond (Nat.blt a b) (a::b::l) (b::ZEW a l)↔_
  cases Nat.blt a b with
  |true=> simp
  |false=> simp only[cond_false,List.mem_cons,zNN];constructor <;> (rintro(h|h|h) <;> simp[h])
theorem zNO {x:Nat}:∀{l:List Nat},x∈l.foldr ZEW []↔x∈l
 |[]=> Iff.rfl
 |a::l=> by
  show x∈ZEW a (l.foldr ZEW [])↔_
  rw[zNN,zNO,List.mem_cons]
section
variable {g:G} {get:Nat→Blk} {n:Nat} {w:World}
theorem zWw (h:WR g get n w) {rs:List Nat} (hcl:∀r∈rs,(get r).plain=true∧∀i∈(get r).ids,i∈rs) {gi:Nat→Blk} (hin:∀r,r∈rs→gi r=get r) (hout:∀r,r∉rs→gi r=.resv∨gi r=.gone):
 At.leOn (·∈rs) (g.at get n) (g.at gi n)∧WR g gi n w:=by
 have hA:At.leOn (·∈rs) (g.at get n) (g.at gi n):=by
  refine⟨?_,?_,?_,?_,?_⟩
  ·rintro r o x hs ⟨h1,h2,h3⟩;exact⟨h1,by rw[hin r hs];exact h2,h3⟩
  ·rintro r o l c s e x n hs ⟨h1,h2,h3⟩;exact⟨h1,by rw[hin r hs];exact h2,h3⟩
  ·rintro r x hs ⟨h1,h2,h3⟩;exact⟨h1,by rw[hin r hs];exact h2,h3⟩
  ·rintro r x hs ⟨h1,h2,h3⟩;exact⟨h1,by rw[hin r hs];exact h2,h3⟩
  ·rintro r e b k c hs ⟨h1,h2,h3⟩;exact⟨h1,by rw[hin r hs];exact h2,fun hw hq=> h3 hw (by rw[←hin r hs];exact hq)⟩
 refine⟨hA,h.imm,fun r hrn=> ?_,fun r r' hrn hrn' hl hl' hm=> ?_⟩
 ·by_cases hrs:r∈rs
  ·obtain⟨hp,hids⟩:=hcl r hrs
   rw[hin r hrs]
   have hb:=h.blk r hrn
   cases hg:get r with
   |row k cs=>
    rw[hg] at hb hids
    obtain⟨c,el,h1,h2,h3,h4,h5⟩:=hb
    refine⟨c,el,h1,h2,h3,fun i v hv=> ?_,h5⟩
    obtain⟨x,q1,q2⟩:=h4 i v hv
    exact⟨x,q1,za2 hA (fun j hj=> hids j (zzd hv j hj)) q2⟩
   |tok hw=> rw[hg] at hb;exact hb
   |map es ver=>
    rw[hg] at hb hids
    obtain⟨ents,clock,h1,h2,h3⟩:=hb
    exact⟨ents,clock,h1,zwK hA (fun j hj=> hids j hj) h2,h3⟩
   |iter m ver left cur=>
    rw[hg] at hb hids
    cases m with
    |none=> exact hb
    |some m=>
     obtain⟨h1,h2,h3,since,seen,last,h4,h5,h6⟩:=hb
     have hm:m∈rs:=hids m (by simp[Blk.ids])
     refine⟨h1,by rw[hin m hm];exact h2,h3,since,seen,last,h4,fun es ver' hq=> h5 es ver' (by rw[←hin m hm];exact hq),fun es hq=> ?_⟩
     obtain⟨ents,k1,k2,k3,k4⟩:=h6 es (by rw[←hin m hm];exact hq)
     refine⟨ents,k1,k2,zwK hA (fun j hj=> hids j ?_) k3,fun k v hc=> ?_⟩
     ·simp only[Blk.ids];exact List.mem_cons_of_mem _ (List.mem_append_left _ hj)
     ·obtain⟨stamp,en,q1,q2,q3,q4⟩:=k4 k v hc
      subst hc
      refine⟨stamp,en,q1,q2,za2 hA (fun j hj=> hids j ?_) q3,za2 hA (fun j hj=> hids j ?_) q4⟩
      ·simp only[Blk.ids];exact List.mem_cons_of_mem _ (List.mem_append_right _ (List.mem_append_left _ hj))
      ·simp only[Blk.ids];exact List.mem_cons_of_mem _ (List.mem_append_right _ (List.mem_append_right _ hj))
   |gone=> trivial
   |resv=> trivial
   |loop fn regs ps asg body pend st d=> rw[hg] at hp;cases hp
   |dfr=> rw[hg] at hp;cases hp
  ·rcases hout r hrs with hh|hh <;> rw[hh] <;> trivial
 ·have q0:∀r,(gi r).live=true→r∈rs:=fun r hl=> by
   rcases Classical.em (r∈rs) with q|q
   ·exact q
   ·rcases hout r q with hh|hh <;> (rw[hh] at hl;cases hl)
  have q1:=q0 r hl
  have q2:=q0 r' hl'
  rw[hin r q1] at hl
  rw[hin r' q2] at hl'
  exact h.inj r r' hrn hrn' hl hl' hm
end
theorem zD7 {f:FuncId} {args:List V} {h:H} {rs:List Nat} {v:V} {h1:H} {e:Eff} (hr:reach h.get 1000 (V.idss args) []=some rs) (a2:∀r∈rs,r < h.n) (a3:h.n < 2 ^ 20)
 (hok:ZDt P f args (H.only h.get h.n rs) [(.ret v,h1)]) (hgrow:Grow (H.only h.get h.n rs) h1) (he:ZEV h.get rs v h1 h.n=some e):ZDt P f args h [(.ret e.v,e.apply h)]:=by
 unfold ZEV at he
 split at he
 case isFalse=> cases he
 rename_i hc
 rw[Bool.and_eq_true,Bool.and_eq_true,Bool.and_eq_true,List.all_eq_true,List.all_eq_true] at hc
 obtain⟨⟨⟨c1,c2⟩,c3⟩,c4⟩:=hc
 have a5:h.n≤h1.n:=Nat.le_of_ble_eq_true c1
 have a4:h1.n < 2 ^ 20:=by simpa using c2
 split at he
 case h_2=> cases he
 rename_i keep hk
 split at he
 case h_2=> cases he
 rename_i nw hnw
 obtain rfl:=Option.some.inj he
 obtain⟨_,k2,k3⟩:=zjk 100000 hk
 have kv:∀r∈v.ids,r∈keep:=fun r hr=> k2 r (List.mem_append_left _ hr)
 have krs:∀r∈rs,r∈keep:=fun r hr=> k2 r (List.mem_append_right _ hr)
 have hcl:∀r∈keep,(h1.get r).plain=true∧∀i∈(h1.get r).ids,i∈keep:=fun r hr=> (k3 r hr).resolve_left (by simp)
 obtain⟨n1,n2,n3⟩:=zy6 hnw
 have nks:∀j,j∈(keep.filter fun r=> Nat.ble h.n r).foldr ZEW []↔j∈keep∧h.n≤j:=fun j=> by
  rw[zNO,List.mem_filter]
  exact and_congr Iff.rfl ⟨fun h=> Nat.le_of_ble_eq_true h,fun h=> Nat.ble_eq ▸ h⟩
 generalize hg3:(fun j=> if j∈keep then h1.get j else if j < h.n then .resv else .gone:Nat→Blk)=get3
 obtain⟨d1,d2,d3⟩:=zyj (get:=get3) (rs:=List.range h1.n) a4 (fun r hr=> List.mem_range.1 hr)
 generalize hh2:({H.only get3 h1.n (List.range h1.n) with dirty:=h1.dirty}:H)=h2
 have e1:h2.wf:=by rw[←hh2];exact d1
 have e2:h2.n=h1.n:=by rw[←hh2];rfl
 have e3:∀j,j < h1.n→h2.get j=get3 j:=fun j hj=> by
  rw[←hh2]
  exact(d3 j hj).trans (if_pos (List.mem_range.2 hj))
 have e4:h2.dirty=h1.dirty:=by rw[←hh2]
 have g_in:∀j,j∈keep→get3 j=h1.get j:=fun j hj=> by rw[←hg3];exact if_pos hj
 have g_out:∀j,j∉keep→get3 j=.resv∨get3 j=.gone:=fun j hj=> by
  rw[←hg3]
  show(if j∈keep then h1.get j else if j < h.n then .resv else .gone)=_∨(if j∈keep then h1.get j else if j < h.n then .resv else .gone)=_
  rw[if_neg hj]
  by_cases hh:j < h.n
  ·exact .inl (if_pos hh)
  ·exact .inr (if_neg hh)
 obtain⟨o1,o2,o3⟩:=zyj (get:=h.get) a3 a2
 have hrs3:∀r,r∈rs→get3 r=h1.get r:=fun r hr=> g_in r (krs r hr)
 have oin:∀r,r < h.n→(H.only h.get h.n rs).get r≠.resv→r∈rs:=fun r hr hne=> by
  rcases Classical.em (r∈rs) with q|q
  ·exact q
  ·exact absurd (by rw[o3 r hr,if_neg q]) hne
 have hok2:ZDt P f args (H.only h.get h.n rs) [(.ret v,h2)]:=by
  intro g xs w hwf hW hv
  refine(hok g xs w hwf hW hv).mono ?_
  rintro en w' ⟨x,p,hp,hen,g1,q1,q2,q3,q4⟩
  obtain rfl:=Qb hp
  obtain⟨hA,hW3⟩:=zWw q2 hcl (gi:=get3) g_in g_out
  have cg:∀j,j < h2.n→get3 j=h2.get j:=fun j hj=> (e3 j (by rw[←e2];exact hj)).symm
  have hX3:Ext g (H.only h.get h.n rs).get h.n w g1 get3 h1.n w':=
   {n_le:=q3.n_le,I_le:=q3.I_le,I_new:=q3.I_new,size:=q3.size,frame:=q3.frame
    back:=fun b hb ⟨r,r1,r2,r3⟩=> q3.back b hb ⟨r,r1,by
     have hm:r∈keep:=by
      rcases Classical.em (r∈keep) with q|q
      ·exact q
      ·rcases g_out r q with hh|hh <;> (rw[hh] at r2;cases r2)
     rw[g_in r hm] at r2;exact r2,r3⟩
    ids:=fun r hr hf=> by
     have hm:=oin r hr (fun hh=> by rw[hh] at hf;cases hf)
     rw[hrs3 r hm];exact q3.ids r hr hf
    kept:=fun r hr hf=> by rw[hrs3 r (oin r hr hf)];exact q3.kept r hr hf
    toks:=fun r hr hw hw' t1 t2=> by
     have hm:=oin r hr (fun hh=> by rw[hh] at t1;cases t1)
     rw[hrs3 r hm] at t2
     exact q3.toks r hr hw hw' t1 t2
    maps:=fun r hr es ver t1=> by
     have hm:=oin r hr (fun hh=> by rw[hh] at t1;cases t1)
     rw[hrs3 r hm]
     exact q3.maps r hr es ver t1
    tape:=q3.tape,os:=q3.os,output:=q3.output}
  refine⟨x,_,List.mem_singleton.2 rfl,hen,g1,e1,?_,?_,?_⟩
  ·rw[e2] at cg⊢;exact hW3.congr cg
  ·rw[e2] at cg⊢;exact hX3.congr (fun _ _=> rfl) cg
  ·rw[e2] at cg⊢
   have h5:=za2 hA kv q4
   rw[←zde cg]
   exact h5
 have hgrow2:Grow (H.only h.get h.n rs) h2:=
  {wf:=fun _=> e1,n:=by rw[e2];exact hgrow.n,dirty:=by rw[e4];exact hgrow.dirty
   get:=fun hw j hj hd=> by
    rw[e4] at hd
    have hj':j < h.n:=by rw[←o2];exact hj
    have h6:=hgrow.get hw j hj hd
    rw[e3 j (by omega)]
    rcases Classical.em (j∈keep) with q|q
    ·rw[g_in j q,h6]
    ·rw[o3 j hj',if_neg (fun hh=> q (krs j hh)),←hg3]
     exact(if_neg q).trans (if_pos hj')}
 have hres:=zQL hr a2 a3 hok2 hgrow2 (by rw[e2];exact a5) (by
  rw[e4];intro r hr
  have:=c3 r hr
  rw[Bool.or_eq_true] at this
  exact this.imp Nat.le_of_ble_eq_true (fun hh=> by simpa using hh)) (by
  intro r hr es ver hh
  rw[e3 r (Nat.lt_of_lt_of_le (a2 r hr) a5),hrs3 r hr] at hh
  have:=c4 r hr
  rw[hh] at this
  unfold kindOk at this
  simp only at this
  split at this
  ·rename_i es' ver' hg;exact⟨es',ver',hg⟩
  ·cases this)
 have heq:ZEB rs v h2 h.n={v,rd:=rs,wr:=(rs.filter h1.dirty.contains).map fun r=> (r,h1.get r),nw}:=by
  unfold ZEB
  rw[e4,e2]
  congr 1
  ·refine List.map_congr_left fun r hr=> ?_
   have hm:=(List.mem_filter.1 hr).1
   rw[e3 r (Nat.lt_of_lt_of_le (a2 r hm) a5),hrs3 r hm]
  ·obtain⟨m1,m2⟩:=zjy h2 (h1.n - h.n) h.n
   refine List.ext_getElem (by rw[m1,n1]) fun j j1 j2=> ?_
   have j3:j < h1.n - h.n:=by rw[←m1];exact j1
   have r1:=m2 j j3
   have r2:=n3 j j3
   rw[List.getD_eq_getElem?_getD,List.getElem?_eq_getElem j1,Option.getD_some] at r1
   rw[List.getD_eq_getElem?_getD,List.getElem?_eq_getElem j2,Option.getD_some] at r2
   rw[r1,r2,e3 _ (by omega),←hg3]
   by_cases hm:h.n+j∈keep
   ·rw[if_pos ((nks _).2 ⟨hm,by omega⟩)];exact if_pos hm
   ·rw[if_neg (fun hh=> hm ((nks _).1 hh).1)];exact(if_neg hm).trans (if_neg (by omega))
 rw[heq] at hres
 exact hres
theorem zQJ {get:Nat→Blk} {rs:List Nat} {v:V} {h1:H} {n:Nat} {e:Eff} (he:ZEV get rs v h1 n=some e):e={v:=e.v,rd:=rs,wr:=e.wr,nw:=e.nw}:=by
 unfold ZEV at he
 split at he
 ·split at he
  ·split at he
   ·obtain rfl:=Option.some.inj he;rfl
   ·cases he
  ·cases he
 ·cases he
theorem zQK {get get':Nat→Blk} {rs:List Nat} {v:V} {h1:H} {n:Nat} (hg:∀r∈rs,get r=get' r):ZEV get rs v h1 n=ZEV get' rs v h1 n:=by
 have h2:(rs.all fun r=> kindOk (h1.get r) (get r))=rs.all fun r=> kindOk (h1.get r) (get' r):=by
  rw[Bool.eq_iff_iff,List.all_eq_true,List.all_eq_true]
  exact⟨fun h r hr=> by rw[←hg r hr];exact h r hr,fun h r hr=> by rw[hg r hr];exact h r hr⟩
 unfold ZEV
 rw[h2]
theorem zQM {known:Known} (hK:KnOk P known) {f:FuncId} {args:List V} {h:H} {run:H→Option (List (R×H))} {outs:List (R×H)}
 (hrun:∀h outs,run h=some outs→ZDj P f∧ZDt P f args h outs) (hgrow:∀h outs,run h=some outs→∀r∈outs,Grow h r.2) (ho:ZFd known f args h run=some outs):ZDj P f∧ZDt P f args h outs:=by
 unfold ZFd at ho
 split at ho
 ·rename_i rs hr
  split at ho
  ·rename_i hc
   rw[Bool.and_eq_true,List.all_eq_true] at hc
   have a2:∀r∈rs,r < h.n:=fun r hr=> Nat.le_of_ble_eq_true (hc.1 r hr)
   have a3:h.n < 2 ^ 20:=Nat.le_of_ble_eq_true hc.2
   split at ho
   ·rename_i e he
    obtain rfl:=Option.some.inj ho
    exact hK.frm f args h rs e he a2 a3 hr
   ·split at ho
    ·rename_i v h1 hcall
     split at ho
     ·rename_i e he
      obtain rfl:=Option.some.inj ho
      obtain⟨hb,hok⟩:=hrun _ _ hcall
      exact⟨hb,zD7 hr a2 a3 hok (hgrow _ _ hcall _ (List.mem_singleton.2 rfl)) he⟩
     ·cases ho
    ·cases ho
  ·cases ho
 ·cases ho
end
section
variable {P:Program}
theorem T.set_comm {α:Type} (t:T α):∀(j k:Nat) (v u:α),j≠k→(t.set j v).set k u=(t.set k u).set j v:=by
 induction t with
 |lf=> intro j k v u _;rfl
 |nd x l r ihl ihr=>
  intro j k v u h
  cases j with
  |zero=>
   cases k with
   |zero=> exact absurd rfl h
   |succ k=>
    rw[T.set_nd0,T.set_ndS,T.set_ndS]
    split <;> rw[T.set_nd0]
  |succ j=>
   cases k with
   |zero=>
    rw[T.set_ndS,T.set_nd0,T.set_ndS]
    split <;> rw[T.set_nd0]
   |succ k=>
    rw[T.set_ndS,T.set_ndS (k:=k)]
    by_cases hj:j % 2=0
    ·by_cases hk:k % 2=0
     ·rw[if_pos hj,if_pos hk,T.set_ndS,if_pos hk,T.set_ndS,if_pos hj,ihl _ _ _ _ (by omega)]
     ·rw[if_pos hj,if_neg hk,T.set_ndS,if_neg hk,T.set_ndS,if_pos hj]
    ·by_cases hk:k % 2=0
     ·rw[if_neg hj,if_pos hk,T.set_ndS,if_pos hk,T.set_ndS,if_neg hj]
     ·rw[if_neg hj,if_neg hk,T.set_ndS,if_neg hk,T.set_ndS,if_neg hj,ihr _ _ _ _ (by omega)]
theorem zOj (regs:T V) {a b:Option Tmp} (v u:V) (h:∀d,a=some d→b≠some d):put (put regs a v) b u=put (put regs b u) a v:=by
 cases a with
 |none=> rfl
 |some d=>
  cases b with
  |none=> rfl
  |some e=> exact T.set_comm _ _ _ _ _ fun hh=> h d rfl (by rw[hh])
theorem zkl (regs:T V) {a:Option Tmp} (v:V) {d:Tmp} (h:a≠some d):(put regs a v).get ZmM d=regs.get ZmM d:=by
 cases a with
 |none=> rfl
 |some e=> show(regs.set e v).get ZmM d=_;rw[T.get_set,if_neg];rintro⟨rfl,_⟩;exact h rfl
structure Item where
 o:Oper
 i:Nat
 nid:Nat
 e:Option Eff
def Item.v (it:Item):V:=match it.e with|some e=> e.v|none=> ZmM
def Item.foot (it:Item):Foot:=match it.e with|some e=> e.foot it.nid|none=> ⟨[],[]⟩
def Item.upd (it:Item) (get:Nat→Blk):Nat→Blk:=match it.e with|some e=> e.upd get it.nid|none=> get
def Item.len (it:Item):Nat:=match it.e with|some e=> e.nw.length|none=> 0
theorem zdb:∀(l:List Blk) (n j:Nat),j∈ZEl n l↔n≤j∧j < n+l.length
 |[],n,j=> ⟨fun h=> (by cases h),fun h=> absurd h.2 (by simp only[List.length_nil];omega)⟩
 |b::l,n,j=> by
  simp only[ZEl,List.mem_cons,zdb l (n+1) j,List.length_cons]
  omega
theorem zjv (e:Eff) (get:Nat→Blk) {nid j:Nat} (h:j∉(e.foot nid).wr):e.upd get nid j=get j:=by
 have h:j∉e.wr.map (·.1)++ZEl nid e.nw:=h
 rw[List.mem_append,not_or,zdb] at h
 show ZEy (ZDs get e.wr) nid e.nw j=_
 rw[zdc,if_neg h.2,(zbZ _ _ _).1 h.1]
theorem zDH (e:Eff) (get get':Nat→Blk) {nid j:Nat} (h:j∈(e.foot nid).wr):e.upd get nid j=e.upd get' nid j:=by
 have h:j∈e.wr.map (·.1)++ZEl nid e.nw:=h
 rw[List.mem_append,zdb] at h
 show ZEy (ZDs get e.wr) nid e.nw j=ZEy (ZDs get' e.wr) nid e.nw j
 rw[zdc,zdc]
 by_cases hn:nid≤j∧j < nid+e.nw.length
 ·rw[if_pos hn,if_pos hn]
 ·rw[if_neg hn,if_neg hn]
  exact(zbZ _ _ _).2 (h.resolve_right hn) _
theorem Item.upd_out (it:Item) (get:Nat→Blk) {j:Nat} (h:j∉it.foot.wr):it.upd get j=get j:=by
 unfold Item.upd
 unfold Item.foot at h
 cases he:it.e with
 |none=> rfl
 |some e=> rw[he] at h;exact zjv e get h
theorem Item.upd_in (it:Item) (get get':Nat→Blk) {j:Nat} (h:j∈it.foot.wr):it.upd get j=it.upd get' j:=by
 unfold Item.upd
 unfold Item.foot at h
 cases he:it.e with
 |none=> rw[he] at h;simp at h
 |some e=> rw[he] at h;exact zDH e get get' h
section
variable {hint:Hint} {known:Known} {E:Ev} {fn:FuncId} {all:Array Oper}
def ok1 (P:Program) (hint:Hint) (known:Known) (E:Ev) (fn:FuncId) (all:Array Oper) (it:Item) (regs:T V) (get:Nat→Blk):Prop:=
 match it.e with
 |none=> (ZCO all it.o).run regs=false
 |some e=> (ZCO all it.o).run regs=true∧(opD P hint known fn it.o).run E regs get it.nid=some e
def ZDy (P:Program) (hint:Hint) (known:Known) (E:Ev) (fn:FuncId) (all:Array Oper):List Item→T V→(Nat→Blk)→Prop
 |[],_,_=> True
 |it::R,regs,get=> ok1 P hint known E fn all it regs get∧ZDy P hint known E fn all R (put regs it.o.dst it.v) (it.upd get)
def ZFk:List Item→T V→T V
 |[],regs=> regs
 |it::R,regs=> ZFk R (put regs it.o.dst it.v)
def ZDY:List Item→(Nat→Blk)→Nat→Blk
 |[],get=> get
 |it::R,get=> ZDY R (it.upd get)
structure Un (all:Array Oper) (a b:Item):Prop where
 n1:∀t∈ZDA all b.o,a.o.dst≠some t
 n2:∀t∈ZDA all a.o,b.o.dst≠some t
 mem:((∀r∈a.foot.wr,r∉b.foot.wr)∧(∀r∈a.foot.wr,r∉b.foot.rd)∧∀r∈a.foot.rd,r∉b.foot.wr)∨(ZEQ a.o.op=true∧ZEQ b.o.op=true∧∃r,a.foot.rd=[r]∧b.foot.rd=[r])
theorem zNU {o:Oper} {d:Tmp} (h:o.dst=some d):d∈ZDA all o:=by
 unfold ZDA;rw[h];simp
theorem zCz {o:Oper} {t:Tmp} (h:Operand.tmp t∈o.op.operands.toList):t∈ZDA all o:=by
 unfold ZDA
 exact List.mem_append_left _ (List.mem_append_right _ (List.mem_filterMap.2 ⟨_,h,rfl⟩))
theorem zCy {o:Oper} {j:Nat} {want:Bool} {d:Tmp} (hg:o.guard=some (j,want)) (hd:(all[j]?).bind (·.dst)=some d):d∈ZDA all o:=by
 unfold ZDA
 refine List.mem_append_right _ ?_
 rw[hg];simp only;rw[hd];simp
theorem zN2 {it:Item} {regs regs':T V} {get get':Nat→Blk} (hr:∀t∈ZDA all it.o,regs'.get ZmM t=regs.get ZmM t) (hg:∀r∈it.foot.rd,get' r=get r) (h:ok1 P hint known E fn all it regs get):ok1 P hint known E fn all it regs' get':=by
 have hw:(ZCO all it.o).run regs'=(ZCO all it.o).run regs:=zDe all it.o fun j want d hgd hd=> hr d (zCy hgd hd)
 unfold ok1 at h⊢
 unfold Item.foot at hg
 cases he:it.e with
 |none=> rw[he] at h;simp only at h⊢;rw[hw];exact h
 |some e=>
  rw[he] at h hg
  simp only at h⊢
  rw[hw]
  refine⟨h.1,?_⟩
  rw[zYa (regs':=regs) (fun t ht=> hr t (zCz ht))]
  exact zOd h.2 hg
def Item.key (it:Item):Oper×Nat×Nat×Foot×Nat×V×Bool:=(it.o,it.i,it.nid,it.foot,it.len,it.v,it.e.isNone)
theorem zae {a b:Item} (h:a.key=b.key):a.o=b.o∧a.i=b.i∧a.nid=b.nid∧a.foot=b.foot∧a.len=b.len∧a.v=b.v∧(a.e=none↔b.e=none):=by
 unfold Item.key at h
 simp only[Prod.mk.injEq] at h
 obtain⟨h1,h2,h3,h4,h5,h6,h7⟩:=h
 refine⟨h1,h2,h3,h4,h5,h6,?_⟩
 cases ha:a.e <;> cases hb:b.e <;> rw[ha,hb] at h7 <;> simp at h7⊢
theorem ZKc {a b:Item} {R:List Item} {regs:T V} {get:Nat→Blk} (n1:∀t∈ZDA all b.o,a.o.dst≠some t) (n2:∀t∈ZDA all a.o,b.o.dst≠some t) (hww:∀r∈a.foot.wr,r∉b.foot.wr) (hwr:∀r∈a.foot.wr,r∉b.foot.rd) (hrw:∀r∈a.foot.rd,r∉b.foot.wr)
 (h:ZDy P hint known E fn all (a::b::R) regs get):
 ZDy P hint known E fn all (b::a::R) regs get∧put (put regs a.o.dst a.v) b.o.dst b.v=put (put regs b.o.dst b.v) a.o.dst a.v∧b.upd (a.upd get)=a.upd (b.upd get):=by
 obtain⟨h1,h2,h3⟩:=h
 have e1:put (put regs a.o.dst a.v) b.o.dst b.v=put (put regs b.o.dst b.v) a.o.dst a.v:=zOj regs _ _ fun d hd hb=> n1 d (zNU hb) hd
 have e2:b.upd (a.upd get)=a.upd (b.upd get):=by
  funext j
  by_cases ha:j∈a.foot.wr
  ·rw[b.upd_out _ (hww j ha),a.upd_in get (b.upd get) ha]
  ·rw[a.upd_out _ ha]
   by_cases hb:j∈b.foot.wr
   ·exact b.upd_in _ _ hb
   ·rw[b.upd_out _ hb,b.upd_out _ hb,a.upd_out _ ha]
 refine⟨⟨?_,?_,?_⟩,e1,e2⟩
 ·refine zN2 (fun t ht=> ?_) (fun r hr=> ?_) h2
  ·exact(zkl regs _ (n1 t ht)).symm
  ·exact(a.upd_out get fun hh=> hwr r hh hr).symm
 ·refine zN2 (fun t ht=> ?_) (fun r hr=> ?_) h1
  ·exact zkl regs _ (n2 t ht)
  ·exact b.upd_out get (hrw r hr)
 ·rw[←e1,←e2];exact h3
structure InsI (P:Program) (it:Item) (regs:T V) (get:Nat→Blk) (r:Nat) (m k x:Operand) (t kt el:TypeId) (kv xv:V) (n:Nat) (es:List (V×V)) (ver:Nat):Prop where
 op:it.o.op=.insert t m k x
 hm:rd regs m=some (.map r)
 hk:rd regs k=some kv
 hx:rd regs x=some xv
 ht:und P t=.map kt el
 hs:und P kt=.string
 hn:ZDO kv=some n
 hg:get r=.map es ver
 ho:others n es=true
 he:it.e=some {v:=ZmM,rd:=[r],wr:=[(r,.map (ZCs n (kv,xv) es) (ver+1))]}
theorem zze {o:Oper} {t:TypeId} {m k x:Operand} (h:o.op=.insert t m k x) (regs:T V) (get:Nat→Blk) (nid:Nat):
 (opD P hint known fn o).run E regs get nid=rd1 regs m fun m=> rd2 regs k x fun k x=> ZE2 P get t m k x:=by
 unfold opD
 rw[h]
 rfl
theorem zEt {it:Item} {regs:T V} {get:Nat→Blk} (h:ok1 P hint known E fn all it regs get) (ho:ZEQ it.o.op=true) {r:Nat} (hr:it.foot.rd=[r]):
 (ZCO all it.o).run regs=true∧∃m k x t kt el kv xv n es ver,InsI P it regs get r m k x t kt el kv xv n es ver:=by
 unfold ok1 at h
 unfold Item.foot at hr
 cases he:it.e with
 |none=> rw[he] at hr;cases hr
 |some e=>
  rw[he] at h hr
  simp only at h
  refine⟨h.1,?_⟩
  have h:=h.2
  cases hop:it.o.op <;> rw[hop] at ho <;> first|cases ho|skip
  rename_i t m k x
  rw[zze hop] at h
  obtain⟨mv,h0,h⟩:=QE h
  obtain⟨kv,xv,h1,h2,h⟩:=zbE h
  obtain⟨r',rfl,kt,el,n,es,ver,q1,q2,q3,q4,q5,rfl⟩:=zyb.1 h
  have hr:[r']=[r]:=hr
  obtain rfl:r'=r:=by simpa using hr
  exact⟨m,k,x,t,kt,el,kv,xv,n,es,ver,hop,h0,h1,h2,q1,q2,q3,q4,q5,he⟩
theorem ZKd {a b:Item} {R:List Item} {regs:T V} {get:Nat→Blk} (n1:∀t∈ZDA all b.o,a.o.dst≠some t) (n2:∀t∈ZDA all a.o,b.o.dst≠some t) (ia:ZEQ a.o.op=true) (ib:ZEQ b.o.op=true) {r:Nat} (ra:a.foot.rd=[r]) (rb:b.foot.rd=[r])
 (h:ZDy P hint known E fn all (a::b::R) regs get):
 ∃a' b',a'.key=a.key∧b'.key=b.key∧ZDy P hint known E fn all (b'::a'::R) regs get∧put (put regs a.o.dst a.v) b.o.dst b.v=put (put regs b'.o.dst b'.v) a'.o.dst a'.v∧b.upd (a.upd get)=a'.upd (b'.upd get):=by
 obtain⟨h1,h2,h3⟩:=h
 obtain⟨wa,m,k,x,t,kt,el,kv,xv,na,es,ver,A⟩:=zEt h1 ia ra
 obtain⟨wb,m',k',x',t',kt',el',kv',xv',nb,es',ver',B⟩:=zEt h2 ib rb
 have ua:a.upd get=upd get r (.map (ZCs na (kv,xv) es) (ver+1)):=by unfold Item.upd;rw[A.he];rfl
 have hes:Blk.map es' ver'=.map (ZCs na (kv,xv) es) (ver+1):=by
  have:=B.hg
  rw[ua,zG] at this
  exact this.symm
 obtain⟨rfl,rfl⟩:es'=ZCs na (kv,xv) es∧ver'=ver+1:=by cases hes;exact⟨rfl,rfl⟩
 have hob:=zwl.1 B.ho
 have hoa:=zwl.1 A.ho
 have hmem:∀p,p∈ZCs na (kv,xv) es↔p∈es∨p=(kv,xv):=fun p=> by rw[(zwY na (kv,xv) es).mem_iff];simp
 have hne:nb≠na:=by
  obtain⟨c,hc,hn⟩:=hob _ ((hmem _).2 (.inr rfl))
  rw[A.hn] at hc
  cases hc
  exact hn
 have va:a.v=ZmM:=by unfold Item.v;rw[A.he]
 have vb:b.v=ZmM:=by unfold Item.v;rw[B.he]
 have rd_b:∀y,Operand.tmp y∈b.o.op.operands.toList→(put regs a.o.dst a.v).get ZmM y=regs.get ZmM y:=fun y hy=> zkl regs _ (n1 y (zCz hy))
 have rd_a:∀y,Operand.tmp y∈a.o.op.operands.toList→(put regs b.o.dst ZmM).get ZmM y=regs.get ZmM y:=fun y hy=> zkl regs _ (n2 y (zCz hy))
 have mb:∀y,y∈b.o.op.operands.toList→rd (put regs a.o.dst a.v) y=rd regs y:=fun y hy=> zCQ fun z hz=> rd_b z (hz ▸ hy)
 have ma:∀y,y∈a.o.op.operands.toList→rd (put regs b.o.dst ZmM) y=rd regs y:=fun y hy=> zCQ fun z hz=> rd_a z (hz ▸ hy)
 have wb':(ZCO all b.o).run regs=true:=by
  rw[←zDe all b.o (regs:=put regs a.o.dst a.v) (regs':=regs) fun j want d hgd hd=> ?_]
  ·exact wb
  ·exact(zkl regs _ (n1 d (zCy hgd hd)))
 have wa':(ZCO all a.o).run (put regs b.o.dst ZmM)=true:=by
  rw[zDe all a.o (regs:=regs) (regs':=put regs b.o.dst ZmM) fun j want d hgd hd=> ?_] at wa
  ·exact wa
  ·exact(zkl regs _ (n2 d (zCy hgd hd))).symm
 have eb:=B.hm;have eb1:=B.hk;have eb2:=B.hx
 rw[mb m' (by rw[B.op];simp[Op.operands])] at eb
 rw[mb k' (by rw[B.op];simp[Op.operands])] at eb1
 rw[mb x' (by rw[B.op];simp[Op.operands])] at eb2
 let eb':Eff:={v:=ZmM,rd:=[r],wr:=[(r,.map (ZCs nb (kv',xv') es) (ver+1))]}
 let ea':Eff:={v:=ZmM,rd:=[r],wr:=[(r,.map (ZCs na (kv,xv) (ZCs nb (kv',xv') es)) (ver+1+1))]}
 have vb':Item.v {b with e:=some eb'}=ZmM:=rfl
 have va':Item.v {a with e:=some ea'}=ZmM:=rfl
 have ub:Item.upd {b with e:=some eb'} get=upd get r (.map (ZCs nb (kv',xv') es) (ver+1)):=rfl
 have uu:b.upd (a.upd get)=Item.upd {a with e:=some ea'} (Item.upd {b with e:=some eb'} get):=by
  have e1:b.upd (a.upd get)=upd (a.upd get) r (.map (ZCs nb (kv',xv') (ZCs na (kv,xv) es)) (ver+1+1)):=by unfold Item.upd;rw[B.he];rfl
  have e2:Item.upd {a with e:=some ea'} (Item.upd {b with e:=some eb'} get)=upd (Item.upd {b with e:=some eb'} get) r (.map (ZCs na (kv,xv) (ZCs nb (kv',xv') es)) (ver+1+1)):=rfl
  rw[e1,e2,ua,ub,zEs B.hn A.hn hne]
  funext j
  by_cases hj:j=r
  ·subst hj;rw[zG,zG]
  ·rw[J7 _ _ hj,J7 _ _ hj,J7 _ _ hj,J7 _ _ hj]
 have pp:put (put regs a.o.dst a.v) b.o.dst b.v=put (put regs b.o.dst ZmM) a.o.dst ZmM:=by
  rw[zOj regs _ _ fun d hd hb=> n1 d (zNU hb) hd,va,vb]
 have ka:Item.key {a with e:=some ea'}=a.key:=by
  unfold Item.key Item.foot Item.len Item.v;simp only;rw[A.he];rfl
 have kb:Item.key {b with e:=some eb'}=b.key:=by
  unfold Item.key Item.foot Item.len Item.v;simp only;rw[B.he];rfl
 refine⟨{a with e:=some ea'},{b with e:=some eb'},ka,kb,⟨?_,?_,?_⟩,pp,uu⟩
 ·refine⟨wb',?_⟩
  show(opD P hint known fn b.o).run E regs get b.nid=some eb'
  rw[zze B.op]
  unfold Ae.rd1 Ae.rd2
  rw[eb,eb1,eb2]
  exact zyb.2 ⟨r,rfl,kt',el',nb,es,ver,B.ht,B.hs,B.hn,A.hg,zwl.2 fun p hp=> hob p ((hmem p).2 (.inl hp)),rfl⟩
 ·refine⟨wa',?_⟩
  show(opD P hint known fn a.o).run E (put regs b.o.dst ZmM) (Item.upd {b with e:=some eb'} get) a.nid=some ea'
  rw[zze A.op]
  unfold Ae.rd1 Ae.rd2
  rw[ma m (by rw[A.op];simp[Op.operands]),ma k (by rw[A.op];simp[Op.operands]),ma x (by rw[A.op];simp[Op.operands]),A.hm,A.hk,A.hx]
  refine zyb.2 ⟨r,rfl,kt,el,na,ZCs nb (kv',xv') es,ver+1,A.ht,A.hs,A.hn,by rw[ub,zG],zwl.2 fun p hp=> ?_,rfl⟩
  rw[(zwY nb (kv',xv') es).mem_iff] at hp
  rcases List.mem_append.1 hp with hp|hp
  ·exact hoa p hp
  ·rw[List.mem_singleton.1 hp];exact⟨nb,B.hn,Ne.symm hne⟩
 ·show ZDy P hint known E fn all R (put (put regs b.o.dst ZmM) a.o.dst ZmM) (Item.upd {a with e:=some ea'} (Item.upd {b with e:=some eb'} get))
  rw[←pp,←uu];exact h3
theorem swap {a b:Item} {R:List Item} {regs:T V} {get:Nat→Blk} (hu:Un all a b) (h:ZDy P hint known E fn all (a::b::R) regs get):
 ∃a' b',a'.key=a.key∧b'.key=b.key∧ZDy P hint known E fn all (b'::a'::R) regs get∧put (put regs a.o.dst a.v) b.o.dst b.v=put (put regs b'.o.dst b'.v) a'.o.dst a'.v∧b.upd (a.upd get)=a'.upd (b'.upd get):=by
 rcases hu.mem with ⟨m1,m2,m3⟩|⟨ia,ib,r,ra,rb⟩
 ·exact⟨a,b,rfl,rfl,ZKc hu.n1 hu.n2 m1 m2 m3 h⟩
 ·exact ZKd hu.n1 hu.n2 ia ib ra rb h
theorem zZi {a b b':Item} (h:b'.key=b.key) (hu:Un all a b):Un all a b':=by
 obtain⟨h1,h2,h3,h4,h5,h6,h7⟩:=zae h
 obtain⟨n1,n2,m⟩:=hu
 exact⟨by rw[h1];exact n1,by rw[h1];exact n2,by rw[h1,h4];exact m⟩
theorem bubble {it:Item}:∀(A:List Item) {B:List Item} {regs:T V} {get:Nat→Blk},(∀a∈A,Un all a it)→ZDy P hint known E fn all (A++it::B) regs get→
 ∃A' it',A'.map Item.key=A.map Item.key∧it'.key=it.key∧ZDy P hint known E fn all (it'::(A'++B)) regs get∧ZFk (A++it::B) regs=ZFk (it'::(A'++B)) regs∧ZDY (A++it::B) get=ZDY (it'::(A'++B)) get
 |[],B,regs,get,_,h=> ⟨[],it,rfl,rfl,h,rfl,rfl⟩
 |a::A,B,regs,get,hu,h=> by
  obtain⟨h1,h2⟩:=h
  obtain⟨A',it',kA,kit,k1,k2,k3⟩:=bubble A (fun x hx=> hu x (List.mem_cons_of_mem _ hx)) h2
  obtain⟨a',it'',ka,kit',s1,s2,s3⟩:=swap (zZi kit (hu a List.mem_cons_self)) (⟨h1,k1⟩:ZDy P hint known E fn all (a::it'::(A'++B)) regs get)
  refine⟨a'::A',it'',by rw[List.map_cons,List.map_cons,ka,kA],kit'.trans kit,s1,?_,?_⟩
  ·show ZFk (A++it::B) (put regs a.o.dst a.v)=ZFk (A'++B) (put (put regs it''.o.dst it''.v) a'.o.dst a'.v)
   rw[k2,←s2];rfl
  ·show ZDY (A++it::B) (a.upd get)=ZDY (A'++B) (a'.upd (it''.upd get))
   rw[k3,←s3];rfl
def ZE7:Nat→List Item→Nat→Prop
 |n,[],n'=> n=n'
 |n,it::R,n'=> (it.e≠none→it.nid=n)∧ZE7 (n+it.len) R n'
theorem zCB:∀(R:List Item) {n n':Nat},ZE7 n R n'→n≤n'
 |[],_,_,h=> Nat.le_of_eq h
 |_::R,_,_,h=> Nat.le_trans (Nat.le_add_right _ _) (zCB R h.2)
theorem zyf:∀(R:List Item) {n n':Nat},ZE7 n R n'→∀it∈R,it.e≠none→n≤it.nid∧it.nid+it.len≤n'
 |[],_,_,_,it,h,_=> by cases h
 |x::R,n,n',h,it,hm,he=> by
  rcases List.mem_cons.1 hm with rfl|hm
  ·have:=zCB R h.2
   have:=h.1 he
   omega
  ·have:=zyf R h.2 it hm he
   omega
theorem zN1:∀(R:List Item) {n n':Nat},ZE7 n R n'→R.Pairwise fun a b=> a.e≠none→b.e≠none→a.nid+a.len≤b.nid
 |[],_,_,_=> .nil
 |x::R,n,n',h=> by
  refine .cons (fun b hb ha hbe=> ?_) (zN1 R h.2)
  have:=(zyf R h.2 b hb hbe).1
  have:=h.1 ha
  omega
theorem zkD {a b:List Nat}:Ae.apart a b=true↔∀x∈a,x∉b:=by
 unfold Ae.apart
 rw[List.all_eq_true]
 constructor
 ·intro h x hx;have:=h x hx;simpa using this
 ·intro h x hx;have:=h x hx;simpa using this
theorem zQH {a b:Foot} (h:a.apart b=true):(∀r∈b.wr,r∉a.wr)∧(∀r∈b.wr,r∉a.rd)∧(∀r∈b.rd,r∉a.wr):=by
 unfold Foot.apart at h
 rw[Bool.and_eq_true,Bool.and_eq_true,zkD,zkD,zkD] at h
 exact⟨fun r hr hh=> h.1.1 r hh hr,fun r hr hh=> h.2 r hh hr,fun r hr hh=> h.1.2 r hh hr⟩
theorem zQn {e:Eff} {h:H} (hw:h.wf) (hwr:∀p∈e.wr,p.1 < h.n):(e.apply h).get=e.upd h.get h.n∧(e.apply h).n=h.n+e.nw.length∧(e.apply h).wf:=by
 obtain⟨k1,k2,k3⟩:=e.apply_get hw
 have hn:(e.apply h).n=h.n+e.nw.length:=by
  rw[k2];unfold Eff.top
  cases e.nw with
  |nil=> rfl
  |cons b l=> simp only;omega
 refine⟨funext fun j=> ?_,hn,k1⟩
 rcases Nat.lt_or_ge j (e.apply h).n with hj|hj
 ·exact k3 j hj
 ·rw[H.get_out k1 j hj,zjv]
  ·rw[H.get_out hw j (by omega)]
  ·show j∉e.wr.map (·.1)++ZEl h.n e.nw
   rw[List.mem_append,not_or,zdb]
   refine⟨fun hm=> ?_,by omega⟩
   obtain⟨p,hp,rfl⟩:=List.mem_map.1 hm
   have:=hwr p hp
   omega
theorem zyn {bef:List Nat} {all:Array Oper} {o:Oper} {i j:Nat} {f f':Foot} (h:f.apart f'=true):ZDB bef all o i j f f'=true:=by
 unfold ZDB;rw[h];simp
theorem zyl {bef:List Nat}:∀(l:List (Oper×Nat)) {dn:List (Nat×Foot)} {s s':St},(ZCV P hint known fn all bef l).run E dn s=some s'→s.h.wf→
 ∃items:List Item,items.map (fun it=> (it.o,it.i))=l∧ZDy P hint known E fn all items s.regs s.h.get∧ZFk items s.regs=s'.regs∧ZDY items s.h.get=s'.h.get∧s'.dfs=s.dfs∧s'.h.wf∧ZE7 s.h.n items s'.h.n∧
  (∀it∈items,∀p∈dn,ZDB bef all it.o it.i p.1 it.foot p.2=true)∧items.Pairwise fun a b=> ZDB bef all b.o b.i a.i b.foot a.foot=true
 |[],dn,s,s',h,hw=> by
  obtain rfl:=Option.some.inj h
  exact⟨[],rfl,trivial,rfl,rfl,rfl,hw,rfl,fun it hit=> (by cases hit),.nil⟩
 |(o,i)::l,dn,s,s',h,hw=> by
  have h:(if (ZCO all o).run s.regs then
   match (opD P hint known fn o).run E s.regs s.h.get s.h.n with
   |some e=> match e with
    |⟨v,[],[],[],false⟩=> (ZCV P hint known fn all bef l).run E dn {s with regs:=put s.regs o.dst v}
    |e=> if dn.all (fun (j,f')=> ZDB bef all o i j (e.foot s.h.n) f') then (ZCV P hint known fn all bef l).run E ((i,e.foot s.h.n)::dn) (s.eff o e) else none
   |none=> none
  else (ZCV P hint known fn all bef l).run E dn {s with regs:=put s.regs o.dst ZmM})=some s':=h
  have none_apart:∀f:Foot,f.apart ⟨[],[]⟩=true:=fun f=> by
   unfold Foot.apart
   simp only[Bool.and_eq_true,zkD]
   exact⟨⟨fun _ _ hh=> (by cases hh),fun _ _ hh=> (by cases hh)⟩,fun _ _ hh=> (by cases hh)⟩
  have apart_none:∀f:Foot,Foot.apart ⟨[],[]⟩ f=true:=fun f=> by
   unfold Foot.apart
   simp only[Bool.and_eq_true,zkD]
   exact⟨⟨fun _ hh=> (by cases hh),fun _ hh=> (by cases hh)⟩,fun _ hh=> (by cases hh)⟩
  split at h
  ·rename_i hwant
   split at h
   ·rename_i e he
    split at h
    ·rename_i v
     obtain⟨items,a1,a2,a3,a4,a5,a6,a7,a8,a9⟩:=zyl l h hw
     refine⟨⟨o,i,s.h.n,some ⟨v,[],[],[],false⟩⟩::items,by rw[List.map_cons,a1],⟨⟨hwant,he⟩,a2⟩,a3,a4,a5,a6,⟨fun _=> rfl,a7⟩,?_,.cons (fun b hb=> zyn (none_apart _)) a9⟩
     intro it hit p hp
     rcases List.mem_cons.1 hit with rfl|hit
     ·exact zyn (apart_none _)
     ·exact a8 it hit p hp
    ·split at h
     ·rename_i hall
      have hwr:∀p∈e.wr,p.1 < s.h.n:=fun p hp=> by
       obtain⟨_,_,q⟩:=zCD he p hp
       rcases q with q|q
       ·exact q
       ·rcases Nat.lt_or_ge p.1 s.h.n with hh|hh
        ·exact hh
        ·exact absurd (H.get_out hw _ hh) q
      obtain⟨b1,b2,b3⟩:=zQn hw hwr
      obtain⟨items,a1,a2,a3,a4,a5,a6,a7,a8,a9⟩:=zyl l h b3
      refine⟨⟨o,i,s.h.n,some e⟩::items,by rw[List.map_cons,a1],⟨⟨hwant,he⟩,?_⟩,a3,?_,a5,a6,⟨fun _=> rfl,?_⟩,?_,.cons (fun b hb=> a8 b hb (i,e.foot s.h.n) List.mem_cons_self) a9⟩
      ·show ZDy P hint known E fn all items (put s.regs o.dst e.v) (e.upd s.h.get s.h.n)
       rw[←b1];exact a2
      ·show ZDY items (e.upd s.h.get s.h.n)=_
       rw[←b1];exact a4
      ·show ZE7 (s.h.n+e.nw.length) items _
       rw[←b2];exact a7
      ·intro it hit p hp
       rcases List.mem_cons.1 hit with rfl|hit
       ·have:=List.all_eq_true.1 hall p hp
        exact this
       ·exact a8 it hit p (List.mem_cons_of_mem _ hp)
     ·cases h
   ·cases h
  ·rename_i hwant
   obtain⟨items,a1,a2,a3,a4,a5,a6,a7,a8,a9⟩:=zyl l h hw
   refine⟨⟨o,i,s.h.n,none⟩::items,by rw[List.map_cons,a1],⟨by simpa[ok1] using hwant,a2⟩,a3,a4,a5,a6,⟨fun hh=> absurd rfl hh,a7⟩,?_,.cons (fun b hb=> zyn (none_apart _)) a9⟩
   intro it hit p hp
   rcases List.mem_cons.1 hit with rfl|hit
   ·exact zyn (apart_none _)
   ·exact a8 it hit p hp
end
end
section
variable {P:Program}
def ZEJ (acc:Array Nat) (o:Oper):Nat:=o.after.foldl (fun s e=> if Region.binds .any e then s|||2 ^ e.on|||acc.getD e.on 0 else s) 0
theorem zD3 (acc:Array Nat):∀(l:List Edge) (s j:Nat),(l.foldl (fun s e=> if Region.binds .any e then s|||2 ^ e.on|||acc.getD e.on 0 else s) s).testBit j=true→
 s.testBit j=true∨∃e∈l,Region.binds .any e=true∧(j=e.on∨(acc.getD e.on 0).testBit j=true)
 |[],s,j,h=> .inl h
 |e::l,s,j,h=> by
  simp only[List.foldl_cons] at h
  rcases zD3 acc l _ j h with h|⟨e',he',hb⟩
  ·split at h
   ·rename_i hb
    simp only[Nat.testBit_or,Bool.or_eq_true] at h
    rcases h with (h|h)|h
    ·exact .inl h
    ·refine .inr ⟨e,List.mem_cons_self,hb,.inl ?_⟩
     rw[Nat.testBit_two_pow] at h
     simpa[eq_comm] using h
    ·exact .inr ⟨e,List.mem_cons_self,hb,.inr h⟩
   ·exact .inl h
  ·exact .inr ⟨e',List.mem_cons_of_mem _ he',hb⟩
theorem zDp (ops:Array Oper):Region.before ops=ops.toList.foldl (fun acc o=> acc.push (ZEJ acc o)) #[]:=by
 unfold Region.before
 rw[←Array.foldl_toList]
 rfl
theorem zDq (ops:List Oper):∀(l:List Oper) (acc:Array Nat),(∀i j,(acc.getD i 0).testBit j=true→∃o,ops[i]?=some o∧∃e∈o.after,Region.binds .any e=true∧(j=e.on∨(e.on < i∧(acc.getD e.on 0).testBit j=true)))→
 l=ops.drop acc.size→∀i j,((l.foldl (fun acc o=> acc.push (ZEJ acc o)) acc).getD i 0).testBit j=true→∃o,ops[i]?=some o∧∃e∈o.after,Region.binds .any e=true∧(j=e.on∨(e.on < i∧((l.foldl (fun acc o=> acc.push (ZEJ acc o)) acc).getD e.on 0).testBit j=true))
 |[],acc,hacc,_=> hacc
 |o::l,acc,hacc,hl=> by
  have hgo:ops[acc.size]?=some o:=by
   have:(ops.drop acc.size)[0]?=some o:=by rw[←hl];rfl
   rw[List.getElem?_drop] at this;exact this
  have hl':l=ops.drop (acc.push (ZEJ acc o)).size:=by
   have:(ops.drop acc.size).tail=l:=by rw[←hl];rfl
   rw[←this,List.tail_drop];simp
  have old:∀k,k < acc.size→(acc.push (ZEJ acc o)).getD k 0=acc.getD k 0:=fun k hk=> by
   rw[Array.getD_eq_getD_getElem?,Array.getD_eq_getD_getElem?,Array.getElem?_push,if_neg (by omega)]
  have out:∀k,acc.size≤k→acc.getD k 0=0:=fun k hk=> by
   rw[Array.getD_eq_getD_getElem?,Array.getElem?_eq_none hk];rfl
  refine zDq ops l (acc.push (ZEJ acc o)) ?_ hl'
  intro i j h
  rcases Nat.lt_trichotomy i acc.size with hlt|rfl|hgt
  ·rw[old i hlt] at h
   obtain⟨o',h1,e,h2,h3,h4⟩:=hacc i j h
   refine⟨o',h1,e,h2,h3,h4.imp id fun⟨q1,q2⟩=> ⟨q1,by rw[old _ (by omega)];exact q2⟩⟩
  ·have hself:(acc.push (ZEJ acc o)).getD acc.size 0=ZEJ acc o:=by
    rw[Array.getD_eq_getD_getElem?,Array.getElem?_push,if_pos rfl];rfl
   rw[hself] at h
   unfold ZEJ at h
   rw[←Array.foldl_toList] at h
   rcases zD3 acc o.after.toList 0 j h with h|⟨e,he,hb,hj⟩
   ·simp at h
   ·refine⟨o,hgo,e,Array.mem_toList_iff.1 he,hb,?_⟩
    rcases hj with hj|hj
    ·exact .inl hj
    ·rcases Nat.lt_or_ge e.on acc.size with hh|hh
     ·exact .inr ⟨hh,by rw[old _ hh];exact hj⟩
     ·rw[out _ hh] at hj;simp at hj
  ·have:(acc.push (ZEJ acc o)).getD i 0=0:=by
    rw[Array.getD_eq_getD_getElem?,Array.getElem?_eq_none (by rw[Array.size_push];omega)];rfl
   rw[this] at h;simp at h
theorem zOS (a:Array Nat) (i:Nat):a.toList.getD i 0=a.getD i 0:=by
 rw[List.getD_eq_getElem?_getD,Array.getElem?_toList,Array.getD_eq_getD_getElem?]
theorem zPy (ops:Array Oper) {i j:Nat} (h:((Region.before ops).toList.getD i 0).testBit j=true):∃o,ops[i]?=some o∧∃e∈o.after,Region.binds .any e=true∧(j=e.on∨(e.on < i∧((Region.before ops).toList.getD e.on 0).testBit j=true)):=by
 rw[zOS,zDp] at h
 obtain⟨o,h1,e,h2,h3,h4⟩:=zDq ops.toList ops.toList #[] (fun i j h=> by simp at h) (by simp) i j h
 refine⟨o,by rw[←Array.getElem?_toList];exact h1,e,h2,h3,?_⟩
 rw[zOS,zDp];exact h4
def Closed (ops:Array Oper) (listed:Array Bool):Prop:=∀i o,ops[i]?=some o→listed.getD i false=true→∀e∈o.after,Region.binds .any e=true→listed.getD e.on false=true
theorem zP1 {ops:Array Oper} {listed:Array Bool} (hc:Closed ops listed):∀(i j:Nat),(∀o,ops[i]?=some o→∀e∈o.after,Region.binds .any e=true→listed.getD e.on false=true)→((Region.before ops).toList.getD i 0).testBit j=true→listed.getD j false=true:=by
 intro i
 induction i using Nat.strongRecOn with
 |_ i ih=>
  intro j hi h
  obtain⟨o,h1,e,h2,h3,h4⟩:=zPy ops h
  have hl:=hi o h1 e h2 h3
  rcases h4 with rfl|⟨h5,h6⟩
  ·exact hl
  ·exact ih e.on h5 j (fun o' ho'=> hc e.on o' ho' hl) h6
theorem zyM {md:Region.Mode} {e:Edge} (h:Region.binds .any e=true):Region.binds md e=true:=by
 unfold Region.binds at h⊢
 split at h <;> first|exact absurd h (by decide)|rfl
def ZFH (md:Region.Mode) (ops:Array Oper):Prop:=∀listed:Array Bool,(∃i,i < ops.size∧listed.getD i true=false)→(∀i,i < ops.size→listed.getD i true=false∨listed.getD i false=true)→Region.ready md ops listed≠[]
theorem zOi {md:Region.Mode} {ops:Array Oper} (rk:Nat→Nat) (h:∀i o,ops[i]?=some o→∀e∈o.after,Region.binds md e=true→e.on < ops.size∧rk e.on < rk i):ZFH md ops:=by
 intro listed hex hall hready
 obtain⟨m,⟨i,hi,hli,rfl⟩,hmin⟩:=zyX (p:=fun m=> ∃i,i < ops.size∧listed.getD i true=false∧rk i=m) (by obtain⟨i,h1,h2⟩:=hex;exact⟨rk i,i,h1,h2,rfl⟩)
 have:i∈Region.ready md ops listed:=by
  refine mem_ready.2 ⟨hli,ops[i],by simp[hi],fun e he hb=> ?_⟩
  obtain⟨h1,h2⟩:=h i ops[i] (by simp[hi]) e he hb
  rcases hall e.on h1 with hq|hq
  ·have:=hmin (rk e.on) ⟨e.on,h1,hq,rfl⟩
   omega
  ·exact hq
 rw[hready] at this
 cases this
theorem zyF {ops:Array Oper} {i:Nat} {o:Oper} (h:ops[i]?=some o):(o,i)∈ops.toList.zipIdx:=by
 rw[List.mem_zipIdx_iff_getElem?]
 rw[←Array.getElem?_toList] at h
 exact h
theorem zOl {ops:Array Oper} (h:ZFj ops=true):
 (∀i o,ops[i]?=some o→∀e∈o.after,Region.binds .text e=true→e.on < i)∧(Region.departs ops=true→ZFH .gc ops)∧
 ∀i j a b,ops[i]?=some a→ops[j]?=some b→i < j→((Region.before ops).toList.getD j 0).testBit i=false→(∀t∈ZDA ops b,a.dst≠some t)∧∀t∈ZDA ops a,b.dst≠some t:=by
 unfold ZFj at h
 simp only[Bool.and_eq_true] at h
 obtain⟨⟨h1,h2⟩,h3⟩:=h
 refine⟨fun i o ho e he hb=> ?_,fun hd=> ?_,fun i j a b ha hb hij hbit=> ?_⟩
 ·have:=List.all_eq_true.1 h1 (o,i) (zyF ho)
  simp only at this
  have:=List.all_eq_true.1 this e (Array.mem_toList_iff.2 he)
  rw[hb] at this
  simpa using this
 ·rw[hd] at h2
  have hg:ZHx ops=true:=by simpa using h2
  unfold ZHx at hg
  refine zOi (fun i=> (Region.linearise .gc ops 0).idxOf i) fun i o ho e he hb=> ?_
  have:=List.all_eq_true.1 hg (o,i) (zyF ho)
  simp only at this
  have:=List.all_eq_true.1 this e (Array.mem_toList_iff.2 he)
  rw[hb] at this
  simp only[Bool.not_true,Bool.false_or,Bool.and_eq_true] at this
  exact⟨Nat.le_of_ble_eq_true this.1,Nat.le_of_ble_eq_true this.2⟩
 ·have key:∀i j a b,ops[i]?=some a→ops[j]?=some b→i≠j→∀t∈ZDA ops b,a.dst=some t→((Region.before ops).toList.getD (max i j) 0).testBit (min i j)=true:=by
   intro i j a b ha hb hij t ht hat
   have:=List.all_eq_true.1 h3 (b,j) (zyF hb)
   simp only at this
   have:=List.all_eq_true.1 this t ht
   have:=List.all_eq_true.1 this (a,i) (zyF ha)
   simp only[hat,Bool.or_eq_true] at this
   rcases this with (this|this)|this
   ·simp at this
   ·exact absurd (by simpa using this) hij
   ·exact this
  constructor
  ·intro t ht hat
   have:=key i j a b ha hb (by omega) t ht hat
   rw[show max i j=j by omega,show min i j=i by omega,hbit] at this
   cases this
  ·intro t ht hbt
   have:=key j i b a hb ha (by omega) t ht hbt
   rw[show max j i=j by omega,show min j i=i by omega,hbit] at this
   cases this
section
variable {hint:Hint} {known:Known} {E:Ev} {fn:FuncId} {all:Array Oper}
theorem zWy {g:G} {get:Nat→Blk} {N:Nat} {w:World} {a:Act} {regs:T V} {dfs:List D} {o:Oper} {nid:Nat} {e:Eff} {x:Value} {w':World} (hR:RR g.I (g.at get N) regs a.tmps) (hd:dfR g get N dfs a.defers) (hl:ZDH g get N w nid e x w') (hN:nid+e.nw.length≤N):
 ∃g',RR g'.I (g'.at (e.upd get nid) N) (put regs o.dst e.v) (a.put o.dst x).tmps∧WR g' (e.upd get nid) N w'∧dfR g' (e.upd get nid) N dfs (a.put o.dst x).defers∧Ext g get N w g' (e.upd get nid) N w':=by
 obtain⟨g',h1,h2,h3⟩:=hl
 have ht:e.top N nid=N:=by
  unfold Eff.top
  cases hl:e.nw with
  |nil=> rfl
  |cons b l=> rw[hl] at hN;simp only;omega
 rw[ht] at h1 h2 h3
 exact⟨g',zda (h2.rr hR) o.dst h3,h1,by rw[zaa];exact Ql h2 hd,h2⟩
structure Left (all:Array Oper) (listed:Array Bool) (N:Nat) (get:Nat→Blk) (R:List Item):Prop where
 un:∀i,i < all.size→(listed.getD i true=false↔∃it∈R,it.i=i)
 two:∀i,i < all.size→listed.getD i true=listed.getD i false
 op:∀it∈R,all[it.i]?=some it.o
 inc:R.Pairwise fun a b=> a.i < b.i
 sep:R.Pairwise fun a b=> ZDB (Region.before all).toList all b.o b.i a.i b.foot a.foot=true
 dis:R.Pairwise fun a b=> a.e≠none→b.e≠none→a.nid+a.len≤b.nid
 top:∀it∈R,it.e≠none→it.nid+it.len≤N
 fresh:∀it∈R,it.e≠none→∀j,it.nid≤j→j < it.nid+it.len→get j=.resv
 closed:Closed all listed
theorem zCG {Q:Item→Item→Prop} (hQ:∀a b a' b',a'.key=a.key→b'.key=b.key→Q a b→Q a' b') {R R':List Item} (h:R'.map Item.key=R.map Item.key) (hp:R.Pairwise Q):R'.Pairwise Q:=by
 induction hp generalizing R' with
 |nil=>
  rw[List.map_nil,List.map_eq_nil_iff] at h
  subst h;exact .nil
 |@cons a l h1 _ ih=>
  cases R' with
  |nil=> exact .nil
  |cons a' l'=>
   rw[List.map_cons,List.map_cons,List.cons.injEq] at h
   refine .cons (fun b' hb'=> ?_) (ih h.2)
   have:b'.key∈l.map Item.key:=by rw[←h.2];exact List.mem_map_of_mem hb'
   obtain⟨b,hb,e⟩:=List.mem_map.1 this
   exact hQ a b a' b' h.1 e.symm (h1 b hb)
theorem zWB {listed:Array Bool} {N:Nat} {get:Nat→Blk} {R R':List Item} (h:R'.map Item.key=R.map Item.key) (hL:Left all listed N get R):Left all listed N get R':=by
 have to:∀it'∈R',∃it∈R,it.key=it'.key:=fun it' hit=> by
  have:it'.key∈R.map Item.key:=by rw[←h];exact List.mem_map_of_mem hit
  exact List.mem_map.1 this
 have fro:∀it∈R,∃it'∈R',it'.key=it.key:=fun it hit=> by
  have:it.key∈R'.map Item.key:=by rw[h];exact List.mem_map_of_mem hit
  exact List.mem_map.1 this
 refine⟨fun i hi=> ?_,hL.two,fun it hit=> ?_,zCG (fun a b a' b' ka kb hq=> ?_) h hL.inc,zCG (fun a b a' b' ka kb hq=> ?_) h hL.sep,zCG (fun a b a' b' ka kb hq=> ?_) h hL.dis,fun it hit=> ?_,fun it hit=> ?_,hL.closed⟩
 ·rw[hL.un i hi]
  constructor
  ·rintro⟨it,hit,rfl⟩
   obtain⟨it',h1,h2⟩:=fro it hit
   exact⟨it',h1,(zae h2).2.1⟩
  ·rintro⟨it,hit,rfl⟩
   obtain⟨it',h1,h2⟩:=to it hit
   exact⟨it',h1,(zae h2).2.1⟩
 ·obtain⟨it',h1,h2⟩:=to it hit
  obtain⟨e1,e2,_⟩:=zae h2
  rw[←e1,←e2];exact hL.op it' h1
 ·rw[(zae ka).2.1,(zae kb).2.1];exact hq
 ·obtain⟨a1,a2,_,a4,_⟩:=zae ka
  obtain⟨b1,b2,_,b4,_⟩:=zae kb
  rw[a2,a4,b1,b2,b4];exact hq
 ·obtain⟨_,_,a3,_,a5,_,a7⟩:=zae ka
  obtain⟨_,_,b3,_,b5,_,b7⟩:=zae kb
  rw[a3,a5,b3]
  exact fun q1 q2=> hq (fun hh=> q1 (a7.2 hh)) fun hh=> q2 (b7.2 hh)
 ·obtain⟨it',h1,h2⟩:=to it hit
  obtain⟨_,_,a3,_,a5,_,a7⟩:=zae h2
  rw[←a3,←a5]
  exact fun q=> hL.top it' h1 fun hh=> q (a7.1 hh)
 ·obtain⟨it',h1,h2⟩:=to it hit
  obtain⟨_,_,a3,_,a5,_,a7⟩:=zae h2
  rw[←a3,←a5]
  exact fun q=> hL.fresh it' h1 fun hh=> q (a7.1 hh)
theorem zQQ {listed:Array Bool} {i:Nat} (h:i < listed.size) (d d':Bool):listed.getD i d=listed.getD i d':=by
 rw[Array.getD_eq_getD_getElem?,Array.getD_eq_getD_getElem?,Array.getElem?_eq_getElem h];rfl
theorem zQl (hE:EvOk P E) (hG:EvGrow E) (hK:KnOk P known) (hreg:ZFj all=true) {md:Region.Mode} (hp:ZFH md all) {N:Nat} {r:Option Nat} {F:Fence} {Q:Exit→Act→World→Prop} {dfs:List D} {regsF:T V} {getF:Nat→Blk}:
 ∀(fuel:Nat) (R:List Item) (listed:Array Bool) (g:G) (a:Act) (w:World) (regs:T V) (get:Nat→Blk),listed.size=all.size→R.length≤fuel→Left all listed N get R→ZDy P hint known E fn all R regs get→
  RR g.I (g.at get N) regs a.tmps→WR g get N w→dfR g get N dfs a.defers→F=ZC7 g r→(∀l,r=some l→l < N∧(get l).firm=true)→ZFk R regs=regsF→ZDY R get=getF→
  (∀g' a' w',RR g'.I (g'.at getF N) regsF a'.tmps→WR g' getF N w'→dfR g' getF N dfs a'.defers→Ext g get N w g' getF N w'→Q .normal a' w')→wpAnyIn F 0 P md all Q fuel listed a w:=by
 intro fuel
 induction fuel with
 |zero=>
  intro R listed g a w regs get hsz hlen hL hV hR hW hd hF hcx hr hg hk
  obtain rfl:R=[]:=List.length_eq_zero_iff.1 (by omega)
  have hrs:regs=regsF:=hr
  have hgt:get=getF:=hg
  subst hrs hgt
  refine⟨?_,hk g a w hR hW hd (Ext.refl _ _ _ _)⟩
  cases hq:Region.ready md all listed with
  |nil=> rfl
  |cons i l=>
   have:i∈Region.ready md all listed:=by rw[hq];exact List.mem_cons_self
   obtain⟨h1,o,h2,_⟩:=mem_ready.1 this
   have hi:i < all.size:=(Array.getElem?_eq_some_iff.1 h2).1
   obtain⟨it,hit,_⟩:=(hL.un i hi).1 h1
   cases hit
 |succ fuel ih=>
  intro R listed g a w regs get hsz hlen hL hV hR hW hd hF hcx hr hg hk
  constructor
  ·intro hready
   have hnil:R=[]:=by
    cases hR':R with
    |nil=> rfl
    |cons it R'=>
     exfalso
     have hit:it∈R:=by rw[hR'];exact List.mem_cons_self
     have hi:it.i < all.size:=(Array.getElem?_eq_some_iff.1 (hL.op it hit)).1
     refine hp listed ⟨it.i,hi,(hL.un it.i hi).2 ⟨it,hit,rfl⟩⟩ (fun i hi=> ?_) hready
     rw[←hL.two i hi]
     cases listed.getD i true
     ·exact .inl rfl
     ·exact .inr rfl
   subst hnil
   have hrs:regs=regsF:=hr
   have hgt:get=getF:=hg
   subst hrs hgt
   exact hk g a w hR hW hd (Ext.refl _ _ _ _)
  ·intro i hi
   obtain⟨hiu,o,hio,hpre⟩:=mem_ready.1 hi
   have hisz:i < all.size:=(Array.getElem?_eq_some_iff.1 hio).1
   obtain⟨it,hit,rfl⟩:=(hL.un i hisz).1 hiu
   obtain rfl:o=it.o:=by have:=hL.op it hit;rw[hio] at this;exact Option.some.inj this
   obtain⟨A,B,rfl⟩:=List.append_of_mem hit
   have hbefore:∀x∈A,x.i < it.i:=fun x hx=> (List.pairwise_append.1 hL.inc).2.2 x hx it List.mem_cons_self
   have hun:∀x∈A,Un all x it:=by
    intro x hx
    have hxm:x∈A++it::B:=List.mem_append_left _ hx
    have hxsz:x.i < all.size:=(Array.getElem?_eq_some_iff.1 (hL.op x hxm)).1
    have hbit:((Region.before all).toList.getD it.i 0).testBit x.i=false:=by
     cases hb:((Region.before all).toList.getD it.i 0).testBit x.i with
     |false=> rfl
     |true=>
      have h1:=zP1 hL.closed it.i x.i (fun o' ho' e he hb'=> by rw[hio] at ho';obtain rfl:=Option.some.inj ho';exact hpre e he (zyM hb')) hb
      have h2:=(hL.un x.i hxsz).2 ⟨x,hxm,rfl⟩
      rw[hL.two x.i hxsz,h1] at h2
      cases h2
    obtain⟨n1,n2⟩:=(zOl hreg).2.2 x.i it.i x.o it.o (hL.op x hxm) hio (hbefore x hx) hbit
    have hap:=(List.pairwise_append.1 hL.sep).2.2 x hx it List.mem_cons_self
    unfold ZDB at hap
    rw[hbit,Bool.false_or,Bool.or_eq_true] at hap
    refine⟨n1,n2,?_⟩
    rcases hap with hap|hap
    ·exact .inl (zQH hap)
    ·right
     unfold ZHa at hap
     rw[hL.op x hxm] at hap
     simp only[Bool.and_eq_true] at hap
     obtain⟨⟨i1,i2⟩,i3⟩:=hap
     refine⟨i2,i1,?_⟩
     split at i3
     ·rename_i r r' q1 q2
      obtain rfl:=Nat.eq_of_beq_eq_true i3
      exact⟨r,q2,q1⟩
     ·cases i3
   obtain⟨A',it',kA,kit,hV',hr',hg'⟩:=bubble A hun hV
   have hL:=zWB (R':=A'++it'::B) (by rw[List.map_append,List.map_append,List.map_cons,List.map_cons,kA,kit]) hL
   obtain⟨eo,ei,_⟩:=zae kit
   obtain⟨hok,hVrest⟩:=hV'
   rw[hr'] at hr
   rw[hg'] at hg
   have hlen:(A'++it'::B).length≤fuel+1:=by
    have:=congrArg List.length kA
    simp only[List.length_map] at this
    simp only[List.length_append,List.length_cons] at hlen⊢
    omega
   clear hun hbefore hV hr' hg' hit
   rw[←ei] at hio hiu hisz hi⊢
   rw[←eo] at hio hpre
   clear kit eo ei kA
   generalize it'=it at *
   generalize A'=A at *
   have hit:it∈A++it::B:=List.mem_append_right _ List.mem_cons_self
   have hbefore:∀x∈A,x.i < it.i:=fun x hx=> (List.pairwise_append.1 hL.inc).2.2 x hx it List.mem_cons_self
   have hsub:(A++B).Sublist (A++it::B):=List.Sublist.append_left (List.sublist_cons_self _ _) _
   have hmem:∀x∈A++B,x∈A++it::B:=fun x hx=> hsub.subset hx
   have hne:∀x∈A++B,x.i≠it.i:=by
    intro x hx
    rcases List.mem_append.1 hx with hx|hx
    ·have:=hbefore x hx;omega
    ·have:=(List.pairwise_cons.1 (List.pairwise_append.1 hL.inc).2.1).1 x hx;omega
   have hlsz:it.i < listed.size:=by rw[hsz];exact hisz
   have hset:∀(j:Nat) (d:Bool),(listed.setIfInBounds it.i true).getD j d=if j=it.i then true else listed.getD j d:=by
    intro j d
    by_cases hj:j=it.i
    ·subst hj;rw[if_pos rfl,Array.getD_eq_getD_getElem?,Array.getElem?_setIfInBounds_self];simp[hlsz]
    ·rw[if_neg hj,getD_set_ne d (Ne.symm hj)]
   have hclosed':Closed all (listed.setIfInBounds it.i true):=by
    intro j oj hoj hlj e he hb
    rw[hset] at hlj⊢
    split
    ·rfl
    ·by_cases hj:j=it.i
     ·subst hj
      rw[hio] at hoj
      obtain rfl:=Option.some.inj hoj
      exact hpre e he (zyM hb)
     ·rw[if_neg hj] at hlj
      exact hL.closed j oj hoj hlj e he hb
   have hLeft:∀get',(∀x∈A++B,x.e≠none→∀j,x.nid≤j→j < x.nid+x.len→get' j=.resv)→Left all (listed.setIfInBounds it.i true) N get' (A++B):=by
    intro get' hfr
    refine⟨fun j hj=> ?_,fun j hj=> ?_,fun x hx=> hL.op x (hmem x hx),hL.inc.sublist hsub,hL.sep.sublist hsub,hL.dis.sublist hsub,fun x hx=> hL.top x (hmem x hx),hfr,hclosed'⟩
    ·rw[hset]
     by_cases hji:j=it.i
     ·subst hji
      rw[if_pos rfl]
      constructor
      ·intro h;cases h
      ·rintro⟨x,hx,hxi⟩;exact absurd hxi (hne x hx)
     ·rw[if_neg hji,hL.un j hj]
      constructor
      ·rintro⟨x,hx,rfl⟩
       refine⟨x,?_,rfl⟩
       rcases List.mem_append.1 hx with hx|hx
       ·exact List.mem_append_left _ hx
       ·rcases List.mem_cons.1 hx with rfl|hx
        ·exact absurd rfl hji
        ·exact List.mem_append_right _ hx
      ·rintro⟨x,hx,rfl⟩;exact⟨x,hmem x hx,rfl⟩
    ·rw[hset,hset]
     split
     ·rfl
     ·exact hL.two j hj
   have hlen':(A++B).length≤fuel:=by
    simp only[List.length_append,List.length_cons] at hlen⊢;omega
   have hsz':(listed.setIfInBounds it.i true).size=all.size:=by rw[Array.size_setIfInBounds];exact hsz
   unfold wpOpIn
   simp only[hio]
   rw[zO6 hR all it.o]
   unfold ok1 at hok
   have hr:ZFk (A++B) (put regs it.o.dst it.v)=regsF:=hr
   have hg:ZDY (A++B) (it.upd get)=getF:=hg
   cases he:it.e with
   |none=>
    rw[he] at hok
    simp only at hok
    rw[hok]
    simp only[Bool.false_eq_true,if_false]
    have hv:it.v=ZmM:=by unfold Item.v;rw[he]
    have hu:it.upd get=get:=by unfold Item.upd;rw[he]
    rw[hv] at hr
    rw[hu] at hg
    rw[hv,hu] at hVrest
    refine⟨fun f _=> by rw[hF];exact za6 g r f,?_⟩
    exact ih (A++B) _ g _ w (put regs it.o.dst ZmM) get hsz' hlen' (hLeft get fun x hx hxe j h1 h2=> hL.fresh x (hmem x hx) hxe j h1 h2) hVrest
     (zda hR it.o.dst zjm) hW (by rw[zaa];exact hd) hF hcx hr hg (fun g' a' w' q1 q2 q3 q4=> hk g' a' w' q1 q2 q3 q4)
   |some e=>
    rw[he] at hok
    simp only at hok
    rw[hok.1]
    simp only[if_true]
    have hv:it.v=e.v:=by unfold Item.v;rw[he]
    have hu:it.upd get=e.upd get it.nid:=by unfold Item.upd;rw[he]
    have hlen1:it.len=e.nw.length:=by unfold Item.len;rw[he]
    have hen:it.e≠none:=by rw[he];simp
    rw[hv] at hr
    rw[hu] at hg
    rw[hv,hu] at hVrest
    have htop:=hL.top it hit hen
    rw[hlen1] at htop
    have hfr:ZDV get N it.nid e.nw.length:=⟨by omega,fun j h1 h2 _=> hL.fresh it hit hen j h1 (by rw[hlen1];exact h2)⟩
    subst hF
    refine zYc hE hG hK hok.2 hW hR (by omega) hfr (r:=r) fun x w' hl=> ?_
    obtain⟨g1,c1,c2,c3,c4⟩:=zWy (o:=it.o) hR hd hl htop
    refine ih (A++B) _ g1 _ w' (put regs it.o.dst e.v) (e.upd get it.nid) hsz' hlen' (hLeft _ fun y hy hye j h1 h2=> ?_) hVrest c1 c2 c3 ?_ ?_ hr hg (fun g' a' w'' q1 q2 q3 q4=> hk g' a' w'' q1 q2 q3 (c4.trans q4))
    ·have hres:=hL.fresh y (hmem y hy) hye j h1 h2
     rw[zjv]
     ·exact hres
     ·show j∉e.wr.map (·.1)++ZEl it.nid e.nw
      rw[List.mem_append,not_or,zdb]
      constructor
      ·intro hm
       obtain⟨p,hp',rfl⟩:=List.mem_map.1 hm
       exact(zCD hok.2 p hp').2.1 hres
      ·rw[←hlen1]
       rcases List.mem_append.1 hy with hy'|hy'
       ·have:=(List.pairwise_append.1 hL.dis).2.2 y hy' it List.mem_cons_self hye hen;omega
       ·have:=(List.pairwise_cons.1 (List.pairwise_append.1 hL.dis).2.1).1 y hy' hen hye;omega
    ·cases r with
     |none=> rfl
     |some l=>
      obtain⟨l1,l2⟩:=hcx l rfl
      show Fence.wide.inRound (g.mu l)=Fence.wide.inRound (g1.mu l)
      rw[(c4.ids l l1 l2).2.1]
    ·intro l hl'
     obtain⟨l1,l2⟩:=hcx l hl'
     exact⟨l1,(c4.ids l l1 l2).1⟩
theorem zYH {g:G} {get get':Nat→Blk} {n N:Nat} {w:World} (hW:WR g get n w) (hn:n≤N) (hg:∀j,j < n→get' j=get j) (hr:∀j,n≤j→j < N→get' j=.resv):WR g get' N w∧Ext g get n w g get' N w:=by
 have hlive:∀j,j < N→n≤j→(get' j).live=true→False:=fun j h1 h2 h3=> by rw[hr j h2 h1] at h3;cases h3
 refine WR.go (fun j=> n≤j) (fun _=> False) hW hn (fun j hj _=> ⟨hg j hj,rfl,rfl,rfl⟩) (fun j h1 _=> h1) (Nat.le_refl _) (fun _ _ _=> rfl) (fun _ _ hd=> hd.elim) (Imm.le_refl _) (fun _ _ _ hx=> .inl hx) (fun b o x hx _=> hW.imm b o x hx) ?_ ?_ ?_ ?_ ?_ ?_ rfl rfl rfl ?_ ?_
 ·intro j h1 h2;omega
 ·intro j h1 h2;omega
 ·intro j h1 h2;omega
 ·intro j h1 h2 h3;exact(hlive j h1 h2 h3).elim
 ·intro j j' h1 _ h2 _ h3;exact(hlive j h1 h2 h3).elim
 ·intro j m ver left cur hj _ hgj hm
  have hb:=hW.blk j hj
  rw[hgj] at hb
  have:=hb.1
  omega
 ·intro _ j h1 h2;rw[hr j h2 h1];trivial
 ·intro j h1 h2;omega
theorem zQa (hE:EvOk P E) (hG:EvGrow E) (hK:KnOk P known) {id:Nat} {ops:Array Oper} (hreg:ZFj ops=true) {cx:Cx} {s s':St} (hs:(ZCV P hint known fn ops (Region.before ops).toList ops.toList.zipIdx).run E [] s=some s') {r:Ex×St} (hf:ZDK hint cx id s'=some r):ZEm P cx (.region id ops true) s [r]:=by
 intro g a w hS hcx
 obtain⟨items,a1,a2,a3,a4,a5,a6,a7,_,a9⟩:=zyl _ hs hS.wf
 have hNle:=zCB items a7
 have hitem:∀it,it∈items→ops[it.i]?=some it.o:=by
  intro it hit
  have:(it.o,it.i)∈ops.toList.zipIdx:=by rw[←a1];exact List.mem_map_of_mem hit
  rw[List.mem_zipIdx_iff_getElem?] at this
  rw[←Array.getElem?_toList];exact this
 have hidx:items.map (·.i)=List.range ops.size:=by
  have h1:items.map (·.i)=(items.map fun it=> (it.o,it.i)).map (·.2):=by rw[List.map_map];rfl
  rw[h1,a1,List.zipIdx_map_snd,List.range_eq_range',Array.length_toList]
 have hlen:items.length=ops.size:=by
  have:=congrArg List.length hidx
  simpa using this
 have hinc:items.Pairwise fun a b=> a.i < b.i:=by
  have:=List.pairwise_lt_range (n:=ops.size)
  rw[←hidx,List.pairwise_map] at this
  exact this
 let get0:Nat→Blk:=fun j=> if j < s.h.n then s.h.get j else if j < s'.h.n then .resv else .gone
 have hg0:∀j,j < s.h.n→get0 j=s.h.get j:=fun j hj=> if_pos hj
 have hr0:∀j,s.h.n≤j→j < s'.h.n→get0 j=.resv:=fun j h1 h2=> by show(if j < s.h.n then _ else _)=_;rw[if_neg (by omega),if_pos h2]
 obtain⟨b1,b2⟩:=zYH hS.wr hNle hg0 hr0
 have hV0:ZDy P hint known E fn ops items s.regs get0:=by
  have key:∀(R:List Item) (n:Nat) (regs:T V) (p q:Nat→Blk),ZE7 n R s'.h.n→(∀j,j < n→p j=q j)→(∀j,n≤j→p j=.gone)→ZDy P hint known E fn ops R regs p→ZDy P hint known E fn ops R regs q:=by
   intro R
   induction R with
   |nil=> intro n regs p q _ _ _ _;trivial
   |cons it R ih=>
    intro n regs p q hn hpq hp hv
    obtain⟨hok,hrest⟩:=hv
    cases he:it.e with
    |none=>
     have hl:it.len=0:=by unfold Item.len;rw[he]
     have hu:∀get,it.upd get=get:=fun get=> by unfold Item.upd;rw[he]
     have hn2:=hn.2
     rw[hl] at hn2
     refine⟨?_,?_⟩
     ·unfold ok1 at hok⊢;rw[he] at hok⊢;exact hok
     ·rw[hu] at hrest⊢;exact ih n _ p q hn2 hpq hp hrest
    |some e=>
     have hid:it.nid=n:=hn.1 (by rw[he];simp)
     have hl:it.len=e.nw.length:=by unfold Item.len;rw[he]
     have hu:∀get,it.upd get=e.upd get n:=fun get=> by unfold Item.upd;rw[he,hid]
     have hn2:=hn.2
     rw[hl] at hn2
     unfold ok1 at hok
     rw[he,hid] at hok
     simp only at hok
     have hwr:∀x∈e.wr,x.1 < n:=fun x hx=> by
      rcases(zCD hok.2 x hx).2.2 with q|q
      ·exact q
      ·rcases Nat.lt_or_ge x.1 n with hh|hh
       ·exact hh
       ·exact absurd (hp _ hh) q
     refine⟨?_,?_⟩
     ·unfold ok1
      rw[he,hid]
      simp only
      refine⟨hok.1,zOd hok.2 fun r hr=> ?_⟩
      rcases zYb hok.2 r hr with q|q
      ·exact(hpq r q).symm
      ·rcases Nat.lt_or_ge r n with hh|hh
       ·exact(hpq r hh).symm
       ·exact absurd (hp _ hh) q
     ·rw[hu] at hrest⊢
      refine ih (n+e.nw.length) _ _ _ hn2 (fun j hj=> ?_) (fun j hj=> ?_) hrest
      ·by_cases hm:j∈(e.foot n).wr
       ·exact zDH e p q hm
       ·rw[zjv e p hm,zjv e q hm]
        refine hpq j ?_
        rcases Nat.lt_or_ge j n with hh|hh
        ·exact hh
        ·exact absurd (List.mem_append_right _ ((zdb _ _ _).2 ⟨hh,hj⟩)) hm
      ·rw[zjv e p]
       ·exact hp j (by omega)
       ·show j∉e.wr.map (·.1)++ZEl n e.nw
        rw[List.mem_append,not_or,zdb]
        refine⟨fun hm=> ?_,by omega⟩
        obtain⟨x,hx,rfl⟩:=List.mem_map.1 hm
        have:=hwr x hx
        omega
  exact key items s.h.n s.regs _ _ a7 (fun j hj=> (hg0 j hj).symm) (fun j hj=> H.get_out hS.wf j hj) a2
 have hgF:∀j,j < s'.h.n→ZDY items get0 j=s'.h.get j:=by
  have key:∀(R:List Item) (n:Nat) (p q:Nat→Blk),ZE7 n R s'.h.n→(∀j,j < n→p j=q j)→∀j,j < s'.h.n→ZDY R p j=ZDY R q j:=by
   intro R
   induction R with
   |nil=> intro n p q hn hpq j hj;have hn:n=s'.h.n:=hn;exact hpq j (by omega)
   |cons it R ih=>
    intro n p q hn hpq j hj
    refine ih (n+it.len) _ _ hn.2 (fun k hk=> ?_) j hj
    by_cases hm:k∈it.foot.wr
    ·exact it.upd_in p q hm
    ·rw[it.upd_out p hm,it.upd_out q hm]
     refine hpq k ?_
     cases he:it.e with
     |none=> have hl:it.len=0:=by unfold Item.len;rw[he]
             omega
     |some e=>
      have hid:it.nid=n:=hn.1 (by rw[he];simp)
      have hl:it.len=e.nw.length:=by unfold Item.len;rw[he]
      have hft:it.foot=e.foot n:=by unfold Item.foot;rw[he,hid]
      rw[hft] at hm
      rcases Nat.lt_or_ge k n with hh|hh
      ·exact hh
      ·exact absurd (List.mem_append_right _ ((zdb _ _ _).2 ⟨hh,by omega⟩)) hm
  intro j hj
  rw[←a4]
  exact key items s.h.n get0 s.h.get a7 hg0 j hj
 have hdis:=zN1 items a7
 have hfirst:Left ops (Array.replicate ops.size false) s'.h.n get0 items:=by
  refine⟨fun i hi=> ?_,fun i hi=> ?_,hitem,hinc,a9,hdis,fun it hit he=> (zyf items a7 it hit he).2,fun it hit he j h1 h2=> ?_,fun i o ho hl=> ?_⟩
  ·constructor
   ·intro _
    have:i∈items.map (·.i):=by rw[hidx];exact List.mem_range.2 hi
    obtain⟨it,h1,h2⟩:=List.mem_map.1 this
    exact⟨it,h1,h2⟩
   ·intro _
    rw[Array.getD_eq_getD_getElem?,Array.getElem?_replicate,if_pos hi];rfl
  ·exact zQQ (by rw[Array.size_replicate];exact hi) _ _
  ·have:=zyf items a7 it hit he
   exact hr0 j (by omega) (by omega)
  ·exfalso
   rw[Array.getD_eq_getD_getElem?,Array.getElem?_replicate] at hl
   split at hl <;> cases hl
 have hcx':∀l,cx.round=some l→l < s'.h.n∧(get0 l).firm=true:=fun l hl=> by
  obtain⟨h1,h2⟩:=hcx l hl
  exact⟨by omega,by rw[hg0 l h1];exact h2⟩
 obtain⟨t1,t2,t3⟩:=zOl hreg
 have main:∀md,ZFH md ops→∀w0,w0={w with drawn:=w.drawn+1}→wpAnyIn (ZC7 g cx.round) 0 P md ops (fun e a' w'=> ∃r'∈[r],∃g',exR g' r'.2.h r'.1 e∧SR g' r'.2 a' w'∧ZCX g s.h w g' r'.2.h w') ops.size (Array.replicate ops.size false) a w0:=by
  intro md hp w0 hw0
  subst hw0
  refine zQl hE hG hK hreg hp ops.size items _ g a _ s.regs get0 (by rw[Array.size_replicate]) (by omega) hfirst hV0 (b2.rr hS.rr) (b1.drew _) (Ql b2 hS.df) rfl hcx' a3 rfl ?_
  intro g' a' w' q1 q2 q3 q4
  have hS':SR g' s' a' w':=by
   refine⟨a6,?_,q2.congr hgF,?_⟩
   ·rw[←zde hgF];exact q1
   ·rw[a5]
    have key:∀(l:List D) (ds:List Deferred),dfR g' (ZDY items get0) s'.h.n l ds→dfR g' s'.h.get s'.h.n l ds:=by
     intro l ds hd
     exact Ql ((Ext.refl g' (ZDY items get0) s'.h.n w').congr (fun _ _=> rfl) hgF) hd
    exact key _ _ q3
  obtain⟨f1,g2,f2,f3⟩:=zD2 hS' hf
  have hE0:ZCX g s.h w g' s'.h w':=((b2.trans (Ext.drew _ _ _ _ _)).trans q4).congr (fun _ _=> rfl) hgF
  exact⟨r,List.mem_singleton.2 rfl,g2,by rw[f1];rfl,f2,Ext.trans hE0 f3⟩
 have hsched:∀md t,ZFH md ops→wpOpsIn (ZC7 g cx.round) 0 P ops (fun e a' w'=> ∃r'∈[r],∃g',exR g' r'.2.h r'.1 e∧SR g' r'.2 a' w'∧ZCX g s.h w g' r'.2.h w') (Region.linearise md ops t) a {w with drawn:=w.drawn+1}:=
  fun md t hp=> wpAnyIn_sound ops.size t _ a _ (main md hp _ rfl)
 have hbin:∀{md:Region.Mode},(∀e:Edge,Region.binds md e=true→Region.binds .text e=true)→ZFH md ops:=fun {md} hmd=>
  zOi (fun i=> i) fun i o ho e he hb=> by
   have h1:=t1 i o ho e he (hmd e hb)
   have h2:=(Array.getElem?_eq_some_iff.1 ho).1
   exact⟨by omega,h1⟩
 refine wpIn_region_draw fun t=> ?_
 unfold Region.schedule
 split
 ·exact hsched _ _ (hbin fun e he=> zyM he)
 ·rename_i hc
  split
  ·exact hsched _ _ (hbin fun e he=> he)
  ·refine hsched _ _ (t2 ?_)
   cases hd:Region.departs ops with
   |true=> rfl
   |false=> rw[hd] at hc;simp at hc
end
end
section
variable {P:Program} {hint:Hint} {known:Known}
theorem zQg {n:Nat} (hE:∀m,m≤n→EvOk P (ev P hint known m)) (hK:KnOk P known) {cx:Cx} {c:Code} {s:St} {outs:List (Ex×St)} (h0:(ev P hint known (n+1)).code cx c s=some outs):ZEm P cx c s outs:=by
 have hn:=hE n (Nat.le_refl _)
 have hG:=zkM (P:=P) hint known n
 have h:(ZEq P hint known cx.fn c).run (ev P hint known n) cx s=some outs:=h0
 unfold ZEq at h
 cases c with
 |skip=>
  obtain rfl:=Option.some.inj h
  intro g a w hS hcx
  exact wpIn_skip ⟨_,List.mem_singleton.2 rfl,g,rfl,hS,Ext.refl _ _ _ _⟩
 |label l=>
  obtain rfl:=Option.some.inj h
  intro g a w hS hcx
  exact wpIn_label ⟨_,List.mem_singleton.2 rfl,g,rfl,hS,Ext.refl _ _ _ _⟩
 |exit id=>
  obtain rfl:=Option.some.inj h
  intro g a w hS hcx
  exact wpIn_exit ⟨_,List.mem_singleton.2 rfl,g,rfl,hS,Ext.refl _ _ _ _⟩
 |ret=>
  obtain rfl:=Option.some.inj h
  intro g a w hS hcx
  exact wpIn_ret ⟨_,List.mem_singleton.2 rfl,g,rfl,hS,Ext.refl _ _ _ _⟩
 |region id os draw=>
  dsimp only at h
  split at h
  ·rename_i hd
   subst hd
   split at h
   ·rename_i hreg
    simp only at h
    split at h
    ·rename_i s1 h1
     split at h
     ·rename_i r hr
      obtain rfl:=Option.some.inj h
      exact zQa hn hG hK hreg h1 hr
     ·cases h
    ·cases h
   ·cases h
  ·rename_i hd
   obtain rfl:draw=false:=by simpa using hd
   simp only at h
   split at h
   ·rename_i ss h1
    exact zQd hn hK h1 h
   ·cases h
 |seq a b=> exact zQf hn h
 |cond c a b=>
  simp only at h
  split at h
  ·rename_i hr;exact zDE (t:=true) hn hr h
  ·rename_i hr;exact zDE (t:=false) hn hr h
  ·cases h
 |block id b=>
  simp only at h
  split at h
  ·rename_i outs1 h1
   obtain rfl:=Option.some.inj h
   exact zP9 hn h1
  ·cases h
 |loop b=> exact zQb hE h0
 |scope b=> exact zQe hn h
 |rangeFunc f ps asg body=>
  simp only at h
  split at h
  ·rename_i d dfs h1 g first cap hra hf
   split at h
   ·rename_i couts hc
    exact zQc hn hra hf hc h
   ·cases h
  ·cases h
 |_=> cases h
theorem zPJ (hK:KnOk P known) {E:Ev} {f:FuncId} {args:List V} {h:H} {outs:List (R×H)} (hrun:∀h outs,(ZDL P known f).run E args h=some outs→ZDj P f∧ZDt P f args h outs)
 (hgrow:∀h outs,(ZDL P known f).run E args h=some outs→∀r∈outs,Grow h r.2) (ho:ZEo P hint known E f args h=some outs):ZDj P f∧ZDt P f args h outs:=by
 unfold ZEo at ho
 cases hf:hint.frame f with
 |true=> rw[hf] at ho;exact zQM hK hrun hgrow ho
 |false=> rw[hf] at ho;exact hrun _ _ ho
theorem zkN (hK:KnOk P known) (hI:ZES P known) (hname:∀(f:FuncId) (fn:Func),P.funcs[f]?=some fn→(fn.name== "runtime.NumGoroutine")=false):∀n m,m≤n→EvOk P (ev P hint known m)
 |0,m,hm=> by
  obtain rfl:m=0:=by omega
  exact⟨fun _ _ _ _ h=> (by cases h),fun _ _ _ _ h=> (by cases h)⟩
 |n+1,m,hm=> by
  have ih:=zkN hK hI hname n
  cases m with
  |zero=> exact ih 0 (Nat.zero_le _)
  |succ m=>
   exact⟨fun f args h outs ho=> zPJ hK (fun h outs ho=> zEf hI (ih m (by omega)) hname ho) (fun h outs ho=> zy8 (zkM hint known m) ho) ho,fun cx c s outs ho=> zQg (fun k hk=> ih k (by omega)) hK ho⟩
theorem zDj (hK:KnOk P known) (hI:ZES P known) (hname:∀(f:FuncId) (fn:Func),P.funcs[f]?=some fn→(fn.name== "runtime.NumGoroutine")=false) {n:Nat} {f:FuncId} {args:List V} {h:H} {outs:List (R×H)} (ho:(ev P hint known n).call f args h=some outs):ZDj P f∧ZDt P f args h outs:=
 (zkN hK hI hname n n (Nat.le_refl _)).call f args h outs ho
end
section
variable {P:Program}
def ZJm (P:Program) (nt:Nat) (o1 o2 o3 o4:Oper) (d:Tmp):Bool:=
 match o1.op,o2.op,o3.op,o4.op,o1.dst,o2.dst,o3.dst,o4.dst with
 |.call c,.assign (.tmp b1),.move (.tmp b2),.binOp .neq t (.tmp b3) (.const .nilIface) _,some a1,some a2,some a3,some a4=>
  (match c.callee with|.builtin .recover=> true|_=> false) && Nat.beq b1 a1 && Nat.beq b2 a2 && Nat.beq b3 a3 && Nat.beq d a4 && Nat.blt a1 nt && Nat.blt a2 nt && Nat.blt a3 nt && Nat.blt a4 nt &&
   (match und P t with|.interface _=> true|_=> false) && o1.guard.isNone && o2.guard.isNone && o3.guard.isNone && o4.guard.isNone
 |_,_,_,_,_,_,_,_=> false
def ZEM (P:Program) (f:FuncId):Bool:=
 match P.funcs[f]? with
 |some fn=> Nat.beq fn.results.size 0 && !(fn.name== "runtime.NumGoroutine") && (match fn.body with
  |some (.seq (.region _ ops false) (.seq (.region _ ops' false) (.cond (.tmp d) _ .skip)))=> match ops.toList,ops'.toList with
   |[o1,o2],[o3,o4]=> ZJm P fn.ntmps o1 o2 o3 o4 d
   |_,_=> false
  |_=> false)
 |none=> false
theorem zyr (a:Act) (d:Option Tmp) (v:Value):(a.put d v).tmps.size=a.tmps.size:=by cases d <;> simp[Act.put]
theorem zOx {a:Act} {cs:List Frame} {w:World} {Q:Exit→Act→List Frame→World→Prop} {ops:Array Oper} {o1 o2:Oper} (ho:ops.toList=[o1,o2]) (h:wpOpsSIn Fence.wide 0 P ops Q [0,1] a cs w):wpOpsSIn Fence.wide 0 P ops Q (List.range ops.size) a cs w:=by
 have:ops.size=2:=by rw[←Array.length_toList,ho];rfl
 rw[this];exact h
theorem zQ4 {f:FuncId} (h:ZEM P f=true):ZDj P f∧∀(xs:Array Value) (w:World),CallsDIn Fence.wide 0 P f xs .returning w fun e u' w'=> (∃x,e=.returned x)∧u'=.returning∧w'=w:=by
 unfold ZEM at h
 split at h
 ·rename_i fn hfn
  rw[Bool.and_eq_true,Bool.and_eq_true] at h
  obtain⟨⟨hres,hname⟩,h⟩:=h
  split at h
  ·rename_i id1 ops id2 ops' d A hbody
   split at h
   ·rename_i o1 o2 o3 o4 h1 h2
    unfold ZJm at h
    split at h
    ·rename_i c b1 b2 t b3 y a1 a2 a3 a4 p1 p2 p3 p4 q1 q2 q3 q4
     simp only[Bool.and_eq_true] at h
     obtain⟨⟨⟨⟨⟨⟨⟨⟨⟨⟨⟨⟨⟨hrec,e1⟩,e2⟩,e3⟩,e4⟩,l1⟩,l2⟩,l3⟩,l4⟩,hint⟩,g1⟩,g2⟩,g3⟩,g4⟩:=h
     obtain rfl:=Nat.eq_of_beq_eq_true e1
     obtain rfl:=Nat.eq_of_beq_eq_true e2
     obtain rfl:=Nat.eq_of_beq_eq_true e3
     obtain rfl:=Nat.eq_of_beq_eq_true e4
     have l1:b1 < fn.ntmps:=Nat.le_of_ble_eq_true l1
     have l2:b2 < fn.ntmps:=Nat.le_of_ble_eq_true l2
     have l3:b3 < fn.ntmps:=Nat.le_of_ble_eq_true l3
     have l4:d < fn.ntmps:=Nat.le_of_ble_eq_true l4
     have w1:∀yl,Region.wanted o1 yl=true:=fun yl=> by unfold Region.wanted;rw[Option.isNone_iff_eq_none.1 g1]
     have w2:∀yl,Region.wanted o2 yl=true:=fun yl=> by unfold Region.wanted;rw[Option.isNone_iff_eq_none.1 g2]
     have w3:∀yl,Region.wanted o3 yl=true:=fun yl=> by unfold Region.wanted;rw[Option.isNone_iff_eq_none.1 g3]
     have w4:∀yl,Region.wanted o4 yl=true:=fun yl=> by unfold Region.wanted;rw[Option.isNone_iff_eq_none.1 g4]
     have k1:ops[0]?=some o1:=by rw[←Array.getElem?_toList,h1];rfl
     have k2:ops[1]?=some o2:=by rw[←Array.getElem?_toList,h1];rfl
     have k3:ops'[0]?=some o3:=by rw[←Array.getElem?_toList,h2];rfl
     have k4:ops'[1]?=some o4:=by rw[←Array.getElem?_toList,h2];rfl
     refine⟨⟨fn,hfn,by simpa using hname,by rw[hbody];rfl⟩,fun xs w=> ?_⟩
     refine callsDIn_of_wpSIn hfn hbody trivial fun c₀ cs hmode=> ?_
     generalize ht0:xs++Array.replicate (fn.ntmps - xs.size) undef=tmps0
     have hsz:fn.ntmps≤tmps0.size:=by rw[←ht0,Array.size_append,Array.size_replicate];omega
     have htriv:∀(o:Oper) (a:Act) (w:World) (f:FuncId),o.about P w a.eval=some f→Fence.wide.fn f:=fun _ _ _ _ _=> trivial
     have r1:∀(a:Act) (w:World),(execOp a.eval o1).run P w=.ok .recover w:=fun a w=> by
      split at hrec
      ·rename_i hc
       have hres:∃ts ty cs,resolve a.eval c o1.type=pure {target:=.builtin .recover ts ty cs,args:=c.args.map a.eval}:=by
        unfold resolve
        rw[hc]
        exact⟨_,_,_,rfl⟩
       obtain⟨ts,ty,cs',hres⟩:=hres
       unfold execOp
       rw[p1]
       simp only[hres]
       rfl
      ·cases hrec
     have rc:recoverD (c₀::cs)=none:=by simp only[recoverD,hmode]
     refine wpSIn_seq (wpSIn_region (zOx h1 ?_))
     simp only[wpOpsSIn,k1,k2,w1,w2,if_true,r1,rc]
     refine⟨fun f _=> trivial,fun f _=> trivial,?_⟩
     have r2:(execOp (({tmps:=tmps0,defers:=[]}:Act).put o1.dst .nilIface).eval o2).run P w=.ok (.value .nilIface) w:=by
      unfold execOp
      rw[p2,q1]
      simp only
      rw[zwm (Nat.lt_of_lt_of_le l1 hsz)]
      rfl
     rw[r2]
     simp only
     show Exit.thenS _ _ Exit.normal _ _ _
     generalize hA:(({tmps:=tmps0,defers:=[]}:Act).put o1.dst .nilIface).put o2.dst .nilIface=a2
     have hd2:a2.defers=[]:=by rw[←hA,zaa,zaa]
     have hs2:a2.tmps.size=tmps0.size:=by rw[←hA,zyr,zyr]
     have hv2:a2.eval (.tmp b2)=.nilIface:=by
      rw[←hA,q2];exact zwm (by rw[zyr];exact Nat.lt_of_lt_of_le l2 hsz) _
     refine wpSIn_seq (wpSIn_region (zOx h2 ?_))
     have r3:(execOp a2.eval o3).run P w=.ok (.value .nilIface) w:=by
      unfold execOp
      rw[p3]
      simp only
      rw[hv2]
      rfl
     simp only[wpOpsSIn,k3,k4,w3,w4,if_true,r3]
     refine⟨fun f _=> trivial,fun f _=> trivial,?_⟩
     have hv3:(a2.put o3.dst .nilIface).eval (.tmp b3)=.nilIface:=by rw[q3];exact zwm (by rw[hs2];exact Nat.lt_of_lt_of_le l3 hsz) _
     have r4:(execOp (a2.put o3.dst .nilIface).eval o4).run P w=.ok (.value (.bool false)) w:=by
      have hb:ZmJ P .neq t false true .nilif .nilif=some (.bool false):=by
       split at hint
       ·rename_i m hm
        unfold ZmJ ZGG
        simp only[Bool.false_or,if_true]
        unfold eqV
        rw[hm]
        rfl
       ·cases hint
      obtain⟨z,hz,hzv⟩:=zDr (P:=P) (I:=fun _ _=> none) (A:=At.bot) (x:=.tmp b3) (y:=.const .nilIface) (a:=.nilif) (b:=.nilif) (a':=.nilIface) (b':=.nilIface) (by simp[vr]) (by simp[vr]) (fun hh=> by cases hh) (fun _=> ⟨_,rfl⟩) hb w
      have hzv:z=.bool false:=hzv
      subst hzv
      unfold execOp
      rw[p4]
      simp only[hv3]
      rw[Sem.run_bind]
      erw [hz]
      rfl
     rw[r4]
     simp only
     show Exit.thenS _ _ Exit.normal _ _ _
     generalize hB:(a2.put o3.dst .nilIface).put o4.dst (.bool false)=a4
     have hd4:a4.defers=[]:=by rw[←hB,zaa,zaa,hd2]
     have hv4:a4.eval (.tmp d)=.bool false:=by
      rw[←hB,q4];exact zwm (by rw[zyr,hs2];exact Nat.lt_of_lt_of_le l4 hsz) _
     refine wpSIn_cond hv4 ?_
     refine wpSIn_of_wpIn rfl (wpIn_skip ?_)
     have hr0:fn.results=#[]:=Array.eq_empty_of_size_eq_zero (Nat.eq_of_beq_eq_true hres)
     refine⟨hd4,.returning,by rw[←hmode],.tuple #[],?_,⟨_,rfl⟩,rfl,rfl⟩
     unfold results
     rw[hr0]
     simp
    ·cases h
   ·cases h
  ·cases h
 ·cases h
theorem zQ3 {known:Known} (h:∀f,known.idle f=true→ZEM P f=true):ZES P known:=fun f hf=> by
 obtain⟨h1,h2⟩:=zQ4 (h f hf)
 refine⟨h1,fun g get n w xs hW=> (h2 xs w).mono ?_⟩
 rintro e u' w' ⟨a,b,rfl⟩
 exact⟨a,b,g,hW,Ext.refl _ _ _ _⟩
end
section
variable {P:Program}
abbrev Tab:=List (FuncId×List V×V)
def ZGs (tab:Tab) (f:FuncId) (args:List V):Option V:=
 List.rec (motive:=fun _=> Option V) none (fun e _ ih=> cond (Nat.beq f e.1) (cond (V.beqs args e.2.1) (some e.2.2) ih) ih) tab
def ZF6 (idl:List FuncId) (tab:Tab):Known where
 call:=ZGs tab
 idle f:=List.rec (motive:=fun _=> Bool) false (fun g _ ih=> cond (Nat.beq f g) true ih) idl
theorem zkp:∀{tab:Tab} {f:FuncId} {args:List V} {v:V},ZGs tab f args=some v→(f,args,v)∈tab
 |[],_,_,_,h=> by cases h
 |(g,as,u)::t,f,args,v,h=> by
  have h:cond (Nat.beq f g) (cond (V.beqs args as) (some u) (ZGs t f args)) (ZGs t f args)=some v:=h
  cases h1:Nat.beq f g with
  |false=> rw[h1] at h;exact List.mem_cons_of_mem _ (zkp h)
  |true=>
   rw[h1] at h
   cases h2:V.beqs args as with
   |false=> rw[h2] at h;exact List.mem_cons_of_mem _ (zkp h)
   |true=>
    rw[h2] at h
    obtain rfl:=Option.some.inj h
    rw[Nat.eq_of_beq_eq_true h1,V.beqs_eq h2]
    exact List.mem_cons_self
theorem zQ5 {idl:List FuncId} {tab:Tab} {f:FuncId} (h:(ZF6 idl tab).idle f=true):f∈idl:=by
 unfold ZF6 at h
 simp only at h
 induction idl with
 |nil=> cases h
 |cons g l ih=>
  have h:cond (Nat.beq f g) true (List.rec (motive:=fun _=> Bool) false (fun g _ ih=> cond (Nat.beq f g) true ih) l)=true:=h
  cases h1:Nat.beq f g with
  |true=> rw[Nat.eq_of_beq_eq_true h1];exact List.mem_cons_self
  |false=> rw[h1] at h;exact List.mem_cons_of_mem _ (ih h)
theorem zEp {idl:List FuncId} (h:idl.all (ZEM P)=true) (tab:Tab):ZES P (ZF6 idl tab):=zQ3 fun f hf=> List.all_eq_true.1 h f (zQ5 hf)
def ZCw (P:Program) (tab:Tab):Prop:=∀e∈tab,ZDj P e.1∧ZDt P e.1 e.2.1 H.empty [(.ret e.2.2,H.empty)]∧e.2.2.pure=true
theorem zY5:ZCw P []:=fun e he=> by cases he
end
section
variable {P:Program}
mutual
def V.beqp:List (V×V)→List (V×V)→Bool
 |[],[]=> true
 |(a,b)::l,(a',b')::l'=> V.beq a a' && (V.beq b b' && V.beqp l l')
 |_,_=> false
end
theorem V.beqp_eq:∀{a b:List (V×V)},V.beqp a b=true→a=b
 |[],[],_=> rfl
 |(a,b)::l,(a',b')::l',h=> by
  unfold V.beqp at h
  rw[Bool.and_eq_true,Bool.and_eq_true] at h
  rw[V.beq_eq h.1,V.beq_eq h.2.1,V.beqp_eq h.2.2]
 |[],_::_,h=> by simp[V.beqp] at h
 |(_,_)::_,[],h=> by simp[V.beqp] at h
def Blk.beq:Blk→Blk→Bool
 |.row k cs,.row k' cs'=> Nat.beq k k' && V.beqs cs cs'
 |.tok h,.tok h'=> Nat.beq h h'
 |.map es v,.map es' v'=> Nat.beq v v' && V.beqp es es'
 |.gone,.gone=> true
 |_,_=> false
theorem Blk.beq_eq {a b:Blk} (h:Blk.beq a b=true):a=b:=by
 unfold Blk.beq at h
 split at h
 ·rw[Bool.and_eq_true] at h
  rw[Nat.eq_of_beq_eq_true h.1,V.beqs_eq h.2]
 ·rw[Nat.eq_of_beq_eq_true h]
 ·rw[Bool.and_eq_true] at h
  rw[Nat.eq_of_beq_eq_true h.1,V.beqp_eq h.2]
 ·rfl
 ·cases h
def bbs:List (Nat×Blk)→List (Nat×Blk)→Bool
 |[],[]=> true
 |(r,b)::l,(r',b')::l'=> Nat.beq r r' && (Blk.beq b b' && bbs l l')
 |_,_=> false
theorem zyK:∀{a b:List (Nat×Blk)},bbs a b=true→a=b
 |[],[],_=> rfl
 |(r,b)::l,(r',b')::l',h=> by
  unfold bbs at h
  rw[Bool.and_eq_true,Bool.and_eq_true] at h
  rw[Nat.eq_of_beq_eq_true h.1,Blk.beq_eq h.2.1,zyK h.2.2]
 |[],_::_,h=> by simp[bbs] at h
 |(_,_)::_,[],h=> by simp[bbs] at h
def bls:List Blk→List Blk→Bool
 |[],[]=> true
 |b::l,b'::l'=> Blk.beq b b' && bls l l'
 |_,_=> false
theorem zDu:∀{a b:List Blk},bls a b=true→a=b
 |[],[],_=> rfl
 |b::l,b'::l',h=> by
  unfold bls at h
  rw[Bool.and_eq_true] at h
  rw[Blk.beq_eq h.1,zDu h.2]
 |[],_::_,h=> by simp[bls] at h
 |_::_,[],h=> by simp[bls] at h
structure FE where
 f:FuncId
 args:List V
 pre:List (Nat×Blk)
 n:Nat
 v:V
 wr:List (Nat×Blk)
 nw:List Blk
abbrev ZCr:=List FE
def FE.eff (x:FE):Eff:={v:=x.v,rd:=x.pre.map (·.1),wr:=x.wr,nw:=x.nw}
def ZFw (ft:ZCr) (f:FuncId) (args:List V) (pre:List (Nat×Blk)) (n:Nat):Option Eff:=
 List.rec (motive:=fun _=> Option Eff) none (fun x _ ih=> cond (Nat.beq f x.f) (cond (Nat.beq n x.n) (cond (V.beqs args x.args) (cond (bbs pre x.pre) (some x.eff) ih) ih) ih) ih) ft
def ZER (idl:List FuncId) (tab:Tab) (ft:ZCr):Known where
 call:=ZGs tab
 idle f:=List.rec (motive:=fun _=> Bool) false (fun g _ ih=> cond (Nat.beq f g) true ih) idl
 callE:=ZFw ft
theorem zEe:∀{ft:ZCr} {f:FuncId} {args:List V} {pre:List (Nat×Blk)} {n:Nat} {e:Eff},ZFw ft f args pre n=some e→∃x∈ft,x.f=f∧x.args=args∧x.pre=pre∧x.n=n∧x.eff=e
 |[],_,_,_,_,_,h=> by cases h
 |x::t,f,args,pre,n,e,h=> by
  have h:cond (Nat.beq f x.f) (cond (Nat.beq n x.n) (cond (V.beqs args x.args) (cond (bbs pre x.pre) (some x.eff) (ZFw t f args pre n)) (ZFw t f args pre n)) (ZFw t f args pre n)) (ZFw t f args pre n)=some e:=h
  have go:ZFw t f args pre n=some e→∃y∈x::t,y.f=f∧y.args=args∧y.pre=pre∧y.n=n∧y.eff=e:=fun h=> by
   obtain⟨y,hy,h'⟩:=zEe h
   exact⟨y,List.mem_cons_of_mem _ hy,h'⟩
  cases h1:Nat.beq f x.f with
  |false=> rw[h1] at h;exact go h
  |true=>
   rw[h1] at h
   cases h2:Nat.beq n x.n with
   |false=> rw[h2] at h;exact go h
   |true=>
    rw[h2] at h
    cases h3:V.beqs args x.args with
    |false=> rw[h3] at h;exact go h
    |true=>
     rw[h3] at h
     cases h4:bbs pre x.pre with
     |false=> rw[h4] at h;exact go h
     |true=>
      rw[h4] at h
      exact⟨x,List.mem_cons_self,(Nat.eq_of_beq_eq_true h1).symm,(V.beqs_eq h3).symm,(zyK h4).symm,(Nat.eq_of_beq_eq_true h2).symm,Option.some.inj h⟩
def ZFs:List (Nat×Blk)→Nat→Blk
 |[],_=> .gone
 |(q,b)::l,r=> cond (Nat.beq r q) b (ZFs l r)
theorem zDt {get:Nat→Blk}:∀{rs:List Nat} {r:Nat},r∈rs→ZFs (rs.map fun r=> (r,get r)) r=get r
 |q::rs,r,h=> by
  show cond (Nat.beq r q) (get q) (ZFs (rs.map fun r=> (r,get r)) r)=get r
  cases hq:Nat.beq r q with
  |true=> rw[Nat.eq_of_beq_eq_true hq];rfl
  |false=>
   rcases List.mem_cons.1 h with rfl|h
   ·rw[Nat.beq_refl] at hq;cases hq
   ·exact zDt h
def ZGb (P:Program) (hint:Hint) (idl:List FuncId) (tab:Tab) (ft:ZCr) (x:FE):Bool:=
 match (ZDL P (ZER idl tab ft) x.f).run (ev P hint (ZER idl tab ft) 1000000) x.args (H.only (ZFs x.pre) x.n (x.pre.map (·.1))) with
 |some [(.ret v,h1)]=> match ZEV (ZFs x.pre) (x.pre.map (·.1)) v h1 x.n with
  |some e=> cond (V.beq e.v x.v) (cond (bbs e.wr x.wr) (cond (bls e.nw x.nw) true false) false) false
  |none=> false
 |_=> false
def ZEp (P:Program) (hint:Hint) (idl:List FuncId) (tab:Tab) (ft l:ZCr):Bool:=
 List.rec (motive:=fun _=> Bool) true (fun e _ ih=> cond (ZGb P hint idl tab ft e) ih false) l
theorem zDA {hint:Hint} {idl:List FuncId} {tab:Tab} {ft:ZCr}:∀{l:ZCr},ZEp P hint idl tab ft l=true→∀e∈l,ZGb P hint idl tab ft e=true
 |[],_,e,he=> by cases he
 |a::l,h,e,he=> by
  have h:cond (ZGb P hint idl tab ft a) (ZEp P hint idl tab ft l) false=true:=h
  cases h1:ZGb P hint idl tab ft a with
  |false=> rw[h1] at h;cases h
  |true=>
   rw[h1] at h
   rcases List.mem_cons.1 he with rfl|hm
   ·exact h1
   ·exact zDA h e hm
def ZCF (P:Program) (ft:ZCr):Prop:=∀x∈ft,∀h:H,h.n=x.n→∀rs:List Nat,(rs.map fun r=> (r,h.get r))=x.pre→(∀r∈rs,r < h.n)→h.n < 2 ^ 20→reach h.get 1000 (V.idss x.args) []=some rs→
 ZDj P x.f∧ZDt P x.f x.args h [(.ret x.eff.v,x.eff.apply h)]
theorem zC5 {tab:Tab} (h:ZCw P tab) {ft:ZCr} (hf:ZCF P ft) (idl:List FuncId):KnOk P (ZER idl tab ft) where
 ok f args v hv:=(h _ (zkp hv)).2
 body f args v hv:=(h _ (zkp hv)).1
 frm f args hh rs e he a2 a3 hr:=by
  obtain⟨x,hx,rfl,rfl,h3,h4,rfl⟩:=zEe he
  exact hf x hx hh h4.symm rs h3.symm a2 a3 hr
theorem zzc {idl:List FuncId} (h:idl.all (ZEM P)=true) (tab:Tab) (ft:ZCr):ZES P (ZER idl tab ft):=zEp h tab
theorem zQP:ZCF P []:=fun e he=> by cases he
theorem zbF {hint:Hint} {idl:List FuncId} (hidl:idl.all (ZEM P)=true) (hname:∀(f:FuncId) (fn:Func),P.funcs[f]?=some fn→(fn.name== "runtime.NumGoroutine")=false) {tab:Tab} {ft l:ZCr} (h:ZCw P tab) (hf:ZCF P ft) (hl:ZEp P hint idl tab ft l=true):ZCF P (l++ft):=by
 have hK:=zC5 h hf idl
 have hI:=zzc hidl tab ft
 have hE:=zkN (hint:=hint) hK hI hname 1000000 1000000 (Nat.le_refl _)
 intro x hx
 rcases List.mem_append.1 hx with hx|hx
 ·have hc:=zDA hl x hx
  unfold ZGb at hc
  intro hh hn rs hrs a2 a3 hr
  split at hc
  ·rename_i v h1 hcall
   split at hc
   ·rename_i e he
    have hmap:x.pre.map (·.1)=rs:=by rw[←hrs,List.map_map];exact List.map_id _
    rw[hmap] at he hcall
    have hget:∀r∈rs,hh.get r=ZFs x.pre r:=fun r hr=> by rw[←hrs,zDt hr]
    have hq:V.beq e.v x.v=true∧bbs e.wr x.wr=true∧bls e.nw x.nw=true:=by
     cases q1:V.beq e.v x.v with
     |false=> rw[q1] at hc;cases hc
     |true=>
      rw[q1] at hc
      cases q2:bbs e.wr x.wr with
      |false=> rw[q2] at hc;cases hc
      |true=>
       rw[q2] at hc
       cases q3:bls e.nw x.nw with
       |false=> rw[q3] at hc;cases hc
       |true=> exact⟨rfl,rfl,rfl⟩
    obtain⟨q1,q2,q3⟩:=hq
    have he2:x.eff=e:=by
     have e1:x.eff={v:=x.v,rd:=x.pre.map (·.1),wr:=x.wr,nw:=x.nw}:=rfl
     rw[e1,hmap,←V.beq_eq q1,←zyK q2,←zDu q3]
     exact(zQJ he).symm
    have ho:H.only hh.get hh.n rs=H.only (ZFs x.pre) x.n rs:=by
     rw[hn]
     exact zN9 hget
    obtain⟨hb,hok⟩:=zEf hI hE hname hcall
    refine⟨hb,?_⟩
    rw[he2]
    refine zD7 hr a2 a3 (by rw[ho];exact hok) (by rw[ho];exact zy8 (zkM hint _ 1000000) hcall _ (List.mem_singleton.2 rfl)) ?_
    rw[hn,zQK hget]
    exact he
   ·cases hc
  ·cases hc
 ·exact hf x hx
def ZGc (P:Program) (hint:Hint) (idl:List FuncId) (tab:Tab) (ft:ZCr) (e:FuncId×List V×V):Bool:=
 match ZC3 hint (ZER idl tab ft) (ev P hint (ZER idl tab ft) 1000000) e.1 e.2.1 0 with
 |some [⟨v,_,[],[],false⟩]=> cond (V.beq v e.2.2) (cond (V.pure e.2.2) (V.pures e.2.1) false) false
 |_=> false
def ZCM (P:Program) (hint:Hint) (idl:List FuncId) (tab:Tab) (ft:ZCr) (l:Tab):Bool:=
 List.rec (motive:=fun _=> Bool) true (fun e _ ih=> cond (ZGc P hint idl tab ft e) ih false) l
theorem zDB {hint:Hint} {idl:List FuncId} {tab:Tab} {ft:ZCr}:∀{l:Tab},ZCM P hint idl tab ft l=true→∀e∈l,ZGc P hint idl tab ft e=true
 |[],_,e,he=> by cases he
 |a::l,h,e,he=> by
  have h:cond (ZGc P hint idl tab ft a) (ZCM P hint idl tab ft l) false=true:=h
  cases h1:ZGc P hint idl tab ft a with
  |false=> rw[h1] at h;cases h
  |true=>
   rw[h1] at h
   rcases List.mem_cons.1 he with rfl|hm
   ·exact h1
   ·exact zDB h e hm
theorem Zv {hint:Hint} {idl:List FuncId} (hidl:idl.all (ZEM P)=true) (hname:∀(f:FuncId) (fn:Func),P.funcs[f]?=some fn→(fn.name== "runtime.NumGoroutine")=false) {tab l:Tab} {ft:ZCr} (h:ZCw P tab) (hf:ZCF P ft) (hl:ZCM P hint idl tab ft l=true):ZCw P (l++tab):=by
 have hK:=zC5 h hf idl
 have hI:=zzc hidl tab ft
 have hE:=zkN (hint:=hint) hK hI hname 1000000 1000000 (Nat.le_refl _)
 intro e he
 rcases List.mem_append.1 he with he|he
 ·have hc:=zDB hl e he
  obtain⟨f,args,v⟩:=e
  unfold ZGc at hc
  split at hc
  ·rename_i u rd hcp
   have hu:V.beq u v=true∧v.pure=true∧V.pures args=true:=by
    cases h1:V.beq u v with
    |false=> rw[h1] at hc;cases hc
    |true=>
     rw[h1] at hc
     cases h2:V.pure v with
     |false=> rw[h2] at hc;cases hc
     |true=> rw[h2] at hc;exact⟨rfl,rfl,hc⟩
   obtain⟨hu1,hu2,hu3⟩:=hu
   obtain rfl:=V.beq_eq hu1
   have hb:ZDj P f:=by
    unfold ZC3 at hcp
    split at hcp
    ·rename_i v hv;exact hK.body _ _ _ hv
    ·split at hcp
     ·rename_i outs ho;exact(hE.call _ _ _ _ ho).1
     ·cases hcp
   refine⟨hb,fun g xs w _ hW hv=> ?_,hu2⟩
   refine(zkI hK.ok (fun f args outs ho=> (hE.call _ _ _ _ ho).2) hcp hu3 hW hv (fun e' he'=> ?_)).mono ?_
   ·rw[Qb he'];exact⟨Nat.le_refl _,fun j h1 h2 _=> absurd h2 (by simp only[List.length_nil];omega)⟩
   ·rintro en w' ⟨x,e',he',hen,g',q1,q2,q3⟩
    rw[Qb he'] at hen q1 q2 q3
    exact⟨x,_,List.mem_singleton.2 rfl,hen,g',H.wf_empty,q1,q2,q3⟩
  ·cases hc
 ·exact h e he
end
end
end Go.Ae
end
