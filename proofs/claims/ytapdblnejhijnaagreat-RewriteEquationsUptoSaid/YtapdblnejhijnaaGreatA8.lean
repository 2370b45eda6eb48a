/- The abstract evaluator at open inputs. -/
import Derived.Test.YtapdblnejhijnaaGreatA7
import Derived.KernelRfl
set_option linter.all false
noncomputable section
namespace Go.Ae
section
section
variable {P:Program}
structure Fil (U:(Ev→Prop)→Prop):Prop where
 top:∀{p:Ev→Prop},(∀E,p E)→U p
 and:∀{p q:Ev→Prop},U p→U q→U fun E=> p E∧q E
 mono:∀{p q:Ev→Prop},(∀E,p E→q E)→U p→U q
structure Tends (E:Ev) (U:(Ev→Prop)→Prop):Prop where
 fil:Fil U
 call:∀{f args h o},E.call f args h=some o→U fun E'=> E'.call f args h=some o
 code:∀{cx c s o},E.code cx c s=some o→U fun E'=> E'.code cx c s=some o
section
variable {E:Ev} {U:(Ev→Prop)→Prop}
theorem zDl {α β:Type} {F:Ev→α→Option β} (hU:Tends E U):∀{l:List α} {ys:List β},(∀x∈l,∀y,F E x=some y→U fun E'=> F E' x=some y)→ZCT (F E) l=some ys→U fun E'=> ZCT (F E') l=some ys
 |[],ys,_,h=> hU.fil.top fun _=> h
 |x::l,ys,hf,h=> by
  simp only[ZCT] at h⊢
  cases h1:F E x with
  |none=> simp[h1] at h
  |some y=>
   cases h2:ZCT (F E) l with
   |none=> simp[h1,h2] at h
   |some zs=>
    simp only[h1,h2] at h
    refine hU.fil.mono ?_ (hU.fil.and (hf x List.mem_cons_self y h1) (zDl hU (fun z hz=> hf z (List.mem_cons_of_mem _ hz)) h2))
    rintro E' ⟨q1,q2⟩
    rw[q1,q2];exact h
theorem zwE {α β:Type} {F:Ev→α→Option (List β)} (hU:Tends E U):∀{l:List α} {ys:List β},(∀x∈l,∀y,F E x=some y→U fun E'=> F E' x=some y)→ZCA (F E) l=some ys→U fun E'=> ZCA (F E') l=some ys
 |[],ys,_,h=> hU.fil.top fun _=> h
 |[x],ys,hf,h=> hf x List.mem_cons_self ys h
 |x::y::l,ys,hf,h=> by
  simp only[ZCA] at h
  cases h1:F E x with
  |none=> simp[h1] at h
  |some a=>
   cases h2:ZCA (F E) (y::l) with
   |none=> simp[h1,h2] at h
   |some b=>
    simp only[h1,h2] at h
    refine hU.fil.mono ?_ (hU.fil.and (hf x List.mem_cons_self a h1) (zwE hU (fun z hz=> hf z (List.mem_cons_of_mem _ hz)) h2))
    rintro E' ⟨q1,q2⟩
    simp only[ZCA]
    rw[q1,q2];exact h
variable {hint:Hint} {known:Known}
theorem zYI (hU:Tends E U) {h:H} {l:Nat} {args:List V} {o:List (V×H)} (ho:ZEi E h l args=some o):U fun E'=> ZEi E' h l args=some o:=by
 unfold ZEi at ho⊢
 split at ho
 ·split at ho
  ·rename_i hlen
   split at ho
   ·rename_i s1 hc1
    split at ho
    ·rename_i hg
     split at ho
     ·rename_i outs hc2
      refine hU.fil.mono ?_ (hU.fil.and (hU.code hc1) (hU.code hc2))
      rintro E' ⟨q1,q2⟩
      rw[if_pos hlen,q1]
      simp only
      rw[hg]
      simp only
      rw[q2]
      exact ho
     ·cases ho
    ·cases ho
   ·cases ho
  ·cases ho
 ·cases ho
theorem zDv (hU:Tends E U) {f:FuncId} {args:List V} {n:Nat} {o:List Eff} (ho:ZC3 hint known E f args n=some o):U fun E'=> ZC3 hint known E' f args n=some o:=by
 unfold ZC3 at ho⊢
 split at ho
 ·rename_i v hv
  exact hU.fil.top fun E'=> ho
 ·rename_i hv
  split at ho
  ·rename_i outs hc
   refine hU.fil.mono ?_ (hU.call hc)
   intro E' q
   rw[q];exact ho
  ·cases ho
theorem zPK (hU:Tends E U) {op:Oper} {s:St} {c:Option Callee1} {o:List (Ex×St)} (ho:ZEa hint known E op s c=some o):U fun E'=> ZEa hint known E' op s c=some o:=by
 unfold ZEa at ho⊢
 split at ho
 ·split at ho
  ·rename_i hp
   cases hc:ZC3 hint known E _ (V.seals _) s.h.n with
   |none=> rw[hc] at ho;cases ho
   |some es=>
    refine hU.fil.mono ?_ (zDv hU hc)
    intro E' q
    rw[hc] at ho
    rw[if_pos hp,q];exact ho
  ·rename_i hp
   split at ho
   ·rename_i outs hc
    refine hU.fil.mono ?_ (hU.call hc)
    intro E' q
    rw[if_neg hp,q];exact ho
   ·cases ho
 ·split at ho
  ·rename_i outs hc
   refine hU.fil.mono ?_ (zYI hU hc)
   intro E' q
   rw[q];exact ho
  ·cases ho
 ·cases ho
theorem zX9 (hU:Tends E U) {fn:FuncId} {op:Oper} {cx:Cx} {s:St} {o:List (Ex×St)} (ho:(op1 P hint known fn op).run E cx s=some o):U fun E'=> (op1 P hint known fn op).run E' cx s=some o:=by
 unfold op1 at ho⊢
 split at ho
 ·rename_i c hop
  split at ho
  ·exact hU.fil.top fun E'=> ho
  ·exact zPK hU ho
 ·exact hU.fil.top fun E'=> ho
 ·exact hU.fil.top fun E'=> ho
 ·exact hU.fil.top fun E'=> ho
 ·exact hU.fil.top fun E'=> ho
theorem zPI (hU:Tends E U) {get:Nat→Blk} {n:Nat} {c:Option Callee1} {o:Eff} (ho:ZDd hint known E get n c=some o):U fun E'=> ZDd hint known E' get n c=some o:=by
 unfold ZDd at ho⊢
 split at ho
 ·split at ho
  ·rename_i hp
   cases hc:ZC3 hint known E _ (V.seals _) n with
   |none=> rw[hc] at ho;cases ho
   |some es=>
    refine hU.fil.mono ?_ (zDv hU hc)
    intro E' q
    rw[hc] at ho
    rw[if_pos hp,q];exact ho
  ·rename_i hp
   split at ho
   ·rename_i rs hr
    split at ho
    ·rename_i hb
     split at ho
     ·rename_i v h1 hc
      refine hU.fil.mono ?_ (hU.call hc)
      intro E' q
      rw[if_neg hp,if_pos hb,q]
      exact ho
     ·cases ho
    ·cases ho
   ·cases ho
 ·cases ho
theorem zYd (hU:Tends E U) {fn:FuncId} {op:Oper} {regs:T V} {get:Nat→Blk} {n:Nat} {o:Eff} (ho:(opD P hint known fn op).run E regs get n=some o):U fun E'=> (opD P hint known fn op).run E' regs get n=some o:=by
 unfold opD at ho⊢
 split at ho
 ·split at ho
  ·exact hU.fil.top fun E'=> ho
  ·exact zPI hU ho
 ·exact hU.fil.top fun E'=> ho
theorem zym (hU:Tends E U) {fn:FuncId} {all:Array Oper} {cx:Cx}:∀(l:List Oper) {s:St} {o:List (Ex×St)},(opsV P hint known fn all l).run E cx s=some o→U fun E'=> (opsV P hint known fn all l).run E' cx s=some o
 |[],s,o,ho=> hU.fil.top fun _=> ho
 |op::l,s,o,ho=> by
  have ho:(if (ZCO all op).run s.regs then
   match (op1 P hint known fn op).run E cx s with
   |some [(.normal,s)]=> (opsV P hint known fn all l).run E cx s
   |some rs=> ZCA (fun r=> match r.1 with
    |.normal=> (opsV P hint known fn all l).run E cx r.2
    |_=> some [r]) rs
   |none=> none
  else (opsV P hint known fn all l).run E cx {s with regs:=put s.regs op.dst ZmM})=some o:=ho
  show U fun E'=> (if (ZCO all op).run s.regs then
   match (op1 P hint known fn op).run E' cx s with
   |some [(.normal,s)]=> (opsV P hint known fn all l).run E' cx s
   |some rs=> ZCA (fun r=> match r.1 with
    |.normal=> (opsV P hint known fn all l).run E' cx r.2
    |_=> some [r]) rs
   |none=> none
  else (opsV P hint known fn all l).run E' cx {s with regs:=put s.regs op.dst ZmM})=some o
  by_cases hw:(ZCO all op).run s.regs=true
  ·rw[if_pos hw] at ho
   cases hop:(op1 P hint known fn op).run E cx s with
   |none=> rw[hop] at ho;cases ho
   |some rs=>
    rw[hop] at ho
    have h1:=zX9 hU hop
    split at ho
    ·rename_i s1 heq
     obtain rfl:=Option.some.inj heq
     refine hU.fil.mono ?_ (hU.fil.and h1 (zym hU l ho))
     rintro E' ⟨q1,q2⟩
     rw[if_pos hw,q1];exact q2
    ·rename_i rs' hne heq
     obtain rfl:=Option.some.inj heq
     have h2:=zwE (F:=fun E' (r:Ex×St)=> match r.1 with|.normal=> (opsV P hint known fn all l).run E' cx r.2|_=> some [r]) hU (fun r hr y hy=> by
      obtain⟨x,s1⟩:=r
      cases x with
      |normal=> exact zym hU l hy
      |_=> exact hU.fil.top fun _=> hy) ho
     refine hU.fil.mono ?_ (hU.fil.and h1 h2)
     rintro E' ⟨q1,q2⟩
     rw[if_pos hw,q1]
     split
     ·rename_i s1 heq;exact absurd (Option.some.inj heq) (hne s1)
     ·rename_i heq;obtain rfl:=Option.some.inj heq;exact q2
     ·rename_i heq;cases heq
    ·cases ho
  ·rw[if_neg hw] at ho
   refine hU.fil.mono ?_ (zym hU l ho)
   intro E' q
   rw[if_neg hw];exact q
theorem zyk (hU:Tends E U) {fn:FuncId} {all:Array Oper} {bef:List Nat}:∀(l:List (Oper×Nat)) {dn:List (Nat×Foot)} {s s':St},(ZCV P hint known fn all bef l).run E dn s=some s'→U fun E'=> (ZCV P hint known fn all bef l).run E' dn s=some s'
 |[],dn,s,s',ho=> hU.fil.top fun _=> ho
 |(op,i)::l,dn,s,s',ho=> by
  have ho:(if (ZCO all op).run s.regs then
   match (opD P hint known fn op).run E s.regs s.h.get s.h.n with
   |some e=> match e with
    |⟨v,[],[],[],false⟩=> (ZCV P hint known fn all bef l).run E dn {s with regs:=put s.regs op.dst v}
    |e=> if dn.all (fun (j,f')=> ZDB bef all op i j (e.foot s.h.n) f') then (ZCV P hint known fn all bef l).run E ((i,e.foot s.h.n)::dn) (s.eff op e) else none
   |none=> none
  else (ZCV P hint known fn all bef l).run E dn {s with regs:=put s.regs op.dst ZmM})=some s':=ho
  show U fun E'=> (if (ZCO all op).run s.regs then
   match (opD P hint known fn op).run E' s.regs s.h.get s.h.n with
   |some e=> match e with
    |⟨v,[],[],[],false⟩=> (ZCV P hint known fn all bef l).run E' dn {s with regs:=put s.regs op.dst v}
    |e=> if dn.all (fun (j,f')=> ZDB bef all op i j (e.foot s.h.n) f') then (ZCV P hint known fn all bef l).run E' ((i,e.foot s.h.n)::dn) (s.eff op e) else none
   |none=> none
  else (ZCV P hint known fn all bef l).run E' dn {s with regs:=put s.regs op.dst ZmM})=some s'
  by_cases hw:(ZCO all op).run s.regs=true
  ·rw[if_pos hw] at ho
   cases hop:(opD P hint known fn op).run E s.regs s.h.get s.h.n with
   |none=> rw[hop] at ho;cases ho
   |some e=>
    rw[hop] at ho
    have h1:=zYd hU hop
    have h2:U fun E'=> (match (some e:Option Eff) with
     |some e=> match e with
      |⟨v,[],[],[],false⟩=> (ZCV P hint known fn all bef l).run E' dn {s with regs:=put s.regs op.dst v}
      |e=> if dn.all (fun (j,f')=> ZDB bef all op i j (e.foot s.h.n) f') then (ZCV P hint known fn all bef l).run E' ((i,e.foot s.h.n)::dn) (s.eff op e) else none
     |none=> none)=some s':=by
     clear hop h1
     simp only at ho⊢
     split at ho
     ·exact zyk hU l ho
     ·rename_i hne
      split at ho
      ·rename_i hall
       refine hU.fil.mono ?_ (zyk hU l ho)
       intro E' q
       exact(if_pos hall).trans q
      ·cases ho
    refine hU.fil.mono ?_ (hU.fil.and h1 h2)
    rintro E' ⟨q1,q2⟩
    rw[if_pos hw,q1];exact q2
  ·rw[if_neg hw] at ho
   refine hU.fil.mono ?_ (zyk hU l ho)
   intro E' q
   rw[if_neg hw];exact q
theorem zYt (hU:Tends E U) {cx:Cx} {s:St} {dfs:List D} {l:Nat} {r:R×H} {o:List (Ex×St)} (ho:ZEh E cx s dfs l r=some o):U fun E'=> ZEh E' cx s dfs l r=some o:=by
 unfold ZEh at ho⊢
 split at ho
 ·exact hU.fil.top fun _=> ho
 ·split at ho
  ·split at ho
   ·cases ho
   ·rename_i hst
    try simp only at ho
    split at ho
    ·refine hU.fil.top fun _=> ?_
     simp only
     rw[if_neg hst];exact ho
    ·refine hU.fil.mono ?_ (hU.code ho)
     intro E' q
     simp only
     rw[if_neg hst];exact q
  ·cases ho
theorem zOF (hU:Tends E U) {cx:Cx} {b:Code} {r:Option (List (Ex×St))} {o:List (Ex×St)} (ho:ZD5 E cx b r=some o):U fun E'=> ZD5 E' cx b r=some o:=by
 unfold ZD5 at ho⊢
 split at ho
 ·exact hU.code ho
 ·rename_i outs hne
  have h2:=zwE (F:=fun E' (r:Ex×St)=> match r.1 with|.normal=> E'.code cx b r.2|_=> some [r]) hU (fun r hr y hy=> by
   obtain⟨x,s1⟩:=r
   cases x with
   |normal=> exact hU.code hy
   |_=> exact hU.fil.top fun _=> hy) ho
  exact h2
 ·cases ho
theorem zQk (hU:Tends E U) {f:FuncId} {xs:List V} {m:Option V} {h:H} {o:Option V×H} (ho:ZFb P E f xs m h=some o):U fun E'=> ZFb P E' f xs m h=some o:=by
 unfold ZFb at ho⊢
 split at ho
 ·rename_i fn hfn
  split at ho
  ·rename_i id ops rest hb
   split at ho
   ·rename_i o1 o2 hops
    split at ho
    ·rename_i c b d1 d2 p1 p2 q1 q2
     split at ho
     ·by_cases hcnd:(true && Nat.beq b d1 && o1.guard.isNone && o2.guard.isNone && Nat.beq fn.results.size 0 && Nat.ble xs.length fn.ntmps && Nat.blt fn.ntmps 1048576 && Nat.blt d1 fn.ntmps)=true
      ·rw[if_pos hcnd] at ho
       simp only at ho
       cases hc:E.code {fn:=f,round:=none} rest {regs:=((ZD6 xs 0 (T.fill ZmM 20 fn.ntmps)).set d1 (m.getD .nilif)).set d2 (m.getD .nilif),dfs:=[],h} with
       |none=> rw[hc] at ho;cases ho
       |some outs=>
        rw[hc] at ho
        refine hU.fil.mono ?_ (hU.code hc)
        intro E' q
        rw[if_pos hcnd]
        simp only
        rw[q];exact ho
      ·rw[if_neg hcnd] at ho;cases ho
     ·simp only[Bool.false_and,Bool.false_eq_true,if_false] at ho
      cases ho
    ·cases ho
   ·cases ho
  ·cases ho
 ·cases ho
theorem zyD (hU:Tends E U):∀(ds:List D) {m:Option V} {h:H} {o:Option V×H},ZDh P known E ds m h=some o→U fun E'=> ZDh P known E' ds m h=some o
 |[],m,h,o,ho=> hU.fil.top fun _=> ho
 |.mark r::ds,m,h,o,ho=> by
  simp only[ZDh] at ho⊢
  split at ho
  ·exact zyD hU ds ho
  ·cases ho
 |.call f cap args::ds,m,h,o,ho=> by
  simp only[ZDh] at ho⊢
  by_cases hc:(m.isNone && known.idle f)=true
  ·rw[if_pos hc] at ho
   refine hU.fil.mono ?_ (zyD hU ds ho)
   intro E' q
   rw[if_pos hc];exact q
  ·rw[if_neg hc] at ho
   split at ho
   ·rename_i m1 h1 hd
    refine hU.fil.mono ?_ (hU.fil.and (zQk hU hd) (zyD hU ds ho))
    rintro E' ⟨q1,q2⟩
    rw[if_neg hc,q1];exact q2
   ·cases ho
theorem zQo (hU:Tends E U) {fn:Func} {r:Ex×St} {o:R×H} (ho:ZDD P known E fn r=some o):U fun E'=> ZDD P known E' fn r=some o:=by
 have key:∀m,(match ZDh P known E r.2.dfs m r.2.h with
  |some (none,h)=> match ZD2 P fn {r.2 with h} with
   |some v=> some (R.ret v,h)
   |none=> none
  |some (some v,h)=> some (R.pan v,h)
  |none=> none)=some o→U fun E'=> (match ZDh P known E' r.2.dfs m r.2.h with
  |some (none,h)=> match ZD2 P fn {r.2 with h} with
   |some v=> some (R.ret v,h)
   |none=> none
  |some (some v,h)=> some (R.pan v,h)
  |none=> none)=some o:=by
  intro m h
  cases hu:ZDh P known E r.2.dfs m r.2.h with
  |none=> rw[hu] at h;cases h
  |some p=>
   rw[hu] at h
   refine hU.fil.mono ?_ (zyD hU _ hu)
   intro E' q
   rw[q];exact h
 unfold ZDD at ho⊢
 split at ho
 ·cases ho
 ·exact key _ ho
theorem zyR (hU:Tends E U) {cx:Cx} {c:Code} {s:St} {o:List (Ex×St)} (ho:(ZEq P hint known cx.fn c).run E cx s=some o):U fun E'=> (ZEq P hint known cx.fn c).run E' cx s=some o:=by
 unfold ZEq at ho⊢
 cases c with
 |skip=> exact hU.fil.top fun _=> ho
 |label l=> exact hU.fil.top fun _=> ho
 |exit id=> exact hU.fil.top fun _=> ho
 |ret=> exact hU.fil.top fun _=> ho
 |region id os draw=>
  dsimp only at ho⊢
  cases draw with
  |true=>
   simp only[if_true] at ho⊢
   by_cases hr:ZFj os=true
   ·rw[if_pos hr] at ho
    simp only[if_pos hr]
    simp only at ho
    cases h1:(ZCV P hint known cx.fn os (Region.before os).toList os.toList.zipIdx).run E [] s with
    |none=> rw[h1] at ho;cases ho
    |some s1=>
     rw[h1] at ho
     refine hU.fil.mono ?_ (zyk hU _ h1)
     intro E' q
     rw[q];exact ho
   ·rw[if_neg hr] at ho;cases ho
  |false=>
   simp only[Bool.false_eq_true,if_false] at ho⊢
   cases h1:(opsV P hint known cx.fn os os.toList).run E cx s with
   |none=> rw[h1] at ho;cases ho
   |some ss=>
    rw[h1] at ho
    refine hU.fil.mono ?_ (zym hU _ h1)
    intro E' q
    rw[q];exact ho
 |seq a b=>
  dsimp only at ho⊢
  cases h1:E.code cx a s with
  |none=> rw[h1] at ho;cases ho
  |some outs=>
   rw[h1] at ho
   refine hU.fil.mono ?_ (hU.fil.and (hU.code h1) (zOF hU ho))
   rintro E' ⟨q1,q2⟩
   rw[q1];exact q2
 |cond c a b=>
  dsimp only at ho⊢
  split at ho
  ·rename_i hr
   refine hU.fil.mono ?_ (hU.code ho)
   intro E' q;exact q
  ·rename_i hr
   refine hU.fil.mono ?_ (hU.code ho)
   intro E' q;exact q
  ·cases ho
 |block id b=>
  dsimp only at ho⊢
  cases h1:E.code cx b s with
  |none=> rw[h1] at ho;cases ho
  |some outs=>
   rw[h1] at ho
   refine hU.fil.mono ?_ (hU.code h1)
   intro E' q
   rw[q];exact ho
 |loop b=>
  dsimp only at ho⊢
  cases h1:E.code cx b s with
  |none=> rw[h1] at ho;cases ho
  |some outs=>
   rw[h1] at ho
   refine hU.fil.mono ?_ (hU.fil.and (hU.code h1) (zOF hU ho))
   rintro E' ⟨q1,q2⟩
   rw[q1];exact q2
 |scope b=> exact hU.code ho
 |rangeFunc f ps asg body=>
  dsimp only at ho⊢
  split at ho
  ·rename_i d dfs h1 g first cap hra hf
   split at ho
   ·rename_i couts hc
    have h2:=zwE (F:=fun E' r=> ZEh E' cx s dfs h1.n r) hU (fun r _ y hy=> zYt hU hy) ho
    refine hU.fil.mono ?_ (hU.fil.and (hU.call hc) h2)
    rintro E' ⟨q1,q2⟩
    rw[q1];exact q2
   ·cases ho
  ·cases ho
 |_=> cases ho
theorem zEg (hU:Tends E U) {f:FuncId} {args:List V} {h:H} {o:List (R×H)} (ho:(ZDL P known f).run E args h=some o):U fun E'=> (ZDL P known f).run E' args h=some o:=by
 unfold ZDL at ho⊢
 split at ho
 ·cases ho
 ·rename_i fn hfn
  split at ho
  ·cases ho
  ·rename_i c hc
   try simp only at ho
   split at ho
   ·rename_i hcond
    split at ho
    ·rename_i couts hco
     have h2:=zDl (F:=fun E' r=> ZDD P known E' fn r) hU (fun r _ y hy=> zQo hU hy) ho
     refine hU.fil.mono ?_ (hU.fil.and (hU.code hco) h2)
     rintro E' ⟨q1,q2⟩
     refine(if_pos hcond).trans ?_
     rw[q1];exact q2
    ·cases ho
   ·cases ho
theorem zQN (hU:Tends E U) {f:FuncId} {args:List V} {h:H} {o:List (R×H)} {run:Ev→H→Option (List (R×H))} (hr:∀h o,run E h=some o→U fun E'=> run E' h=some o) (ho:ZFd known f args h (run E)=some o):U fun E'=> ZFd known f args h (run E')=some o:=by
 unfold ZFd at ho⊢
 cases hre:reach h.get 1000 (V.idss args) [] with
 |none=> rw[hre] at ho;cases ho
 |some rs=>
  rw[hre] at ho
  simp only at ho⊢
  split at ho
  ·rename_i hc
   cases hk:known.callE f args (rs.map fun r=> (r,h.get r)) h.n with
   |some e=>
    rw[hk] at ho
    refine hU.fil.top fun E'=> ?_
    rw[if_pos hc];exact ho
   |none=>
    rw[hk] at ho
    simp only at ho
    cases hcall:run E (H.only h.get h.n rs) with
    |none=> rw[hcall] at ho;cases ho
    |some outs=>
     refine hU.fil.mono ?_ (hr _ _ hcall)
     intro E' q
     rw[if_pos hc]
     simp only
     rw[q]
     rw[hcall] at ho
     exact ho
  ·cases ho
theorem zyO (hU:Tends E U) {f:FuncId} {args:List V} {h:H} {o:List (R×H)} (ho:ZEo P hint known E f args h=some o):U fun E'=> ZEo P hint known E' f args h=some o:=by
 unfold ZEo at ho⊢
 cases hf:hint.frame f with
 |true=> rw[hf] at ho;exact zQN (run:=fun E=> (ZDL P known f).run E args) hU (fun h o ho=> zEg hU ho) ho
 |false=> rw[hf] at ho;exact zEg hU ho
end
section
variable (P:Program) (hint:Hint) (known:Known)
theorem zjx (E:Ev):Fil (fun p=> p E):=⟨fun h=> h E,fun a b=> ⟨a,b⟩,fun h a=> h E a⟩
theorem zwO:∀n,Tends (ev P hint known n) (fun p=> p (ev P hint known (n+1)))
 |0=> ⟨zjx _,fun h=> (by cases h),fun h=> (by cases h)⟩
 |n+1=> ⟨zjx _,fun h=> zyO (zwO n) h,fun h=> zyR (zwO n) h⟩
theorem zjw {n m:Nat} (h:n≤m):Tends (ev P hint known n) (fun p=> p (ev P hint known m)):=by
 induction m with
 |zero=> obtain rfl:n=0:=by omega
         exact⟨zjx _,fun h=> h,fun h=> h⟩
 |succ m ih=>
  by_cases hn:n=m+1
  ·subst hn;exact⟨zjx _,fun h=> h,fun h=> h⟩
  ·have h1:=ih (by omega)
   exact⟨zjx _,fun h=> (zwO P hint known m).call (h1.call h),fun h=> (zwO P hint known m).code (h1.code h)⟩
open Classical in
def EV:Ev where
 code cx c s:=if h:∃o n,(ev P hint known n).code cx c s=some o then some h.choose else none
 call f args h:=if h:∃o n,(ev P hint known n).call f args h=some o then some h.choose else none
theorem zkz {f:FuncId} {args:List V} {h:H} {o:List (R×H)}:(EV P hint known).call f args h=some o↔∃n,(ev P hint known n).call f args h=some o:=by
 unfold EV
 simp only
 constructor
 ·intro hh
  split at hh
  ·rename_i hex
   obtain rfl:=Option.some.inj hh
   exact hex.choose_spec
  ·cases hh
 ·rintro⟨n,hn⟩
  have hex:∃o n,(ev P hint known n).call f args h=some o:=⟨o,n,hn⟩
  rw[dif_pos hex]
  obtain⟨m,hm⟩:=hex.choose_spec
  have h1:=(zjw P hint known (Nat.le_max_left n m)).call hn
  have h2:=(zjw P hint known (Nat.le_max_right n m)).call hm
  exact h2.symm.trans h1
theorem zwy {cx:Cx} {c:Code} {s:St} {o:List (Ex×St)}:(EV P hint known).code cx c s=some o↔∃n,(ev P hint known n).code cx c s=some o:=by
 unfold EV
 simp only
 constructor
 ·intro hh
  split at hh
  ·rename_i hex
   obtain rfl:=Option.some.inj hh
   exact hex.choose_spec
  ·cases hh
 ·rintro⟨n,hn⟩
  have hex:∃o n,(ev P hint known n).code cx c s=some o:=⟨o,n,hn⟩
  rw[dif_pos hex]
  obtain⟨m,hm⟩:=hex.choose_spec
  have h1:=(zjw P hint known (Nat.le_max_left n m)).code hn
  have h2:=(zjw P hint known (Nat.le_max_right n m)).code hm
  exact h2.symm.trans h1
theorem zDg:Tends (EV P hint known) (fun p=> ∃n,∀m,n≤m→p (ev P hint known m)) where
 fil:=⟨fun h=> ⟨0,fun m _=> h _⟩,fun⟨a,ha⟩ ⟨b,hb⟩=> ⟨max a b,fun m hm=> ⟨ha m (by omega),hb m (by omega)⟩⟩,fun h ⟨a,ha⟩=> ⟨a,fun m hm=> h _ (ha m hm)⟩⟩
 call h:=by
  obtain⟨n,hn⟩:=(zkz P hint known).1 h
  exact⟨n,fun m hm=> (zjw P hint known hm).call hn⟩
 code h:=by
  obtain⟨n,hn⟩:=(zwy P hint known).1 h
  exact⟨n,fun m hm=> (zjw P hint known hm).code hn⟩
theorem zPe {cx:Cx} {c:Code} {s:St} {o:List (Ex×St)} (h:(ZEq P hint known cx.fn c).run (EV P hint known) cx s=some o):(EV P hint known).code cx c s=some o:=by
 obtain⟨n,hn⟩:=zyR (zDg P hint known) h
 exact(zwy P hint known).2 ⟨n+1,hn n (Nat.le_refl _)⟩
theorem zPd {f:FuncId} {args:List V} {h:H} {o:List (R×H)} (ho:ZEo P hint known (EV P hint known) f args h=some o):(EV P hint known).call f args h=some o:=by
 obtain⟨n,hn⟩:=zyO (zDg P hint known) ho
 exact(zkz P hint known).2 ⟨n+1,hn n (Nat.le_refl _)⟩
end
theorem zyG {hint:Hint} {known:Known} (hK:KnOk P known) (hI:ZES P known) (hname:∀(f:FuncId) (fn:Func),P.funcs[f]?=some fn→(fn.name== "runtime.NumGoroutine")=false) {f:FuncId} {args:List V} {h:H} {outs:List (R×H)} (ho:(EV P hint known).call f args h=some outs):ZDj P f∧ZDt P f args h outs:=by
 obtain⟨n,hn⟩:=(zkz P hint known).1 ho
 exact zDj hK hI hname hn
end
section
variable {α:Type}
def at1 (f:Nat→α) (i:Nat) (v:α):Nat→α:=fun j=> if j=i then v else f j
theorem zag (f:Nat→α) (i:Nat) (v:α):at1 f i v i=v:=if_pos rfl
theorem QF {i j:Nat} (f:Nat→α) (v:α) (h:j≠i):at1 f i v j=f j:=if_neg h
def mkT:Nat→Nat→(Nat→α)→T α
 |0,_,_=> .lf
 |f+1,n,g=> match n with
  |0=> .lf
  |m+1=> .nd (g 0) (mkT f ((m+1) / 2) (fun k=> g (2 * k+1))) (mkT f (m / 2) (fun k=> g (2 * k+2)))
theorem zwP (d:α):∀f n,T.fill d f n=mkT f n (fun _=> d)
 |0,_=> rfl
 |f+1,0=> rfl
 |f+1,m+1=> by
  show T.nd d (T.fill d f ((m+1) / 2)) (T.fill d f (m / 2))=_
  rw[zwP d f,zwP d f];rfl
theorem zEh (d x:α) (l r:T α) (k:Nat):(T.nd x l r).get d (k+1)=cond (Nat.beq (k % 2) 0) (l.get d (k / 2)) (r.get d (k / 2)):=rfl
theorem zYU (x v:α) (l r:T α) (k:Nat):(T.nd x l r).set (k+1) v=cond (Nat.beq (k % 2) 0) (T.nd x (l.set (k / 2) v) r) (T.nd x l (r.set (k / 2) v)):=rfl
theorem zYo (x v:α) (l r:T α) (k:Nat):(T.nd x l r).push (k+1) v=cond (Nat.beq (k % 2) 0) (T.nd x (l.push (k / 2) v) r) (T.nd x l (r.push (k / 2) v)):=rfl
theorem zwT (d:α):∀(f n:Nat) (g:Nat→α) (i:Nat),i < n→n < 2 ^ f→(mkT f n g).get d i=g i
 |0,n,g,i,h1,h2=> by omega
 |f+1,0,g,i,h1,h2=> by omega
 |f+1,m+1,g,0,h1,h2=> rfl
 |f+1,m+1,g,k+1,h1,h2=> by
  have hp:2 ^ (f+1)=2 * 2 ^ f:=by rw[Nat.pow_succ];omega
  show(T.nd (g 0) _ _).get d (k+1)=_
  rw[zEh]
  rcases Nat.mod_two_eq_zero_or_one k with hk|hk
  ·rw[hk]
   show(mkT f ((m+1) / 2) _).get d (k / 2)=_
   rw[zwT d f _ _ _ (by omega) (by omega)]
   exact congrArg g (by omega)
  ·rw[hk]
   show(mkT f (m / 2) _).get d (k / 2)=_
   rw[zwT d f _ _ _ (by omega) (by omega)]
   exact congrArg g (by omega)
theorem QU:∀(f n:Nat) (g:Nat→α) (i:Nat) (v:α),(mkT f n g).set i v=mkT f n (at1 g i v)
 |0,n,g,i,v=> rfl
 |f+1,0,g,i,v=> rfl
 |f+1,m+1,g,0,v=> by
  show T.nd v _ _=T.nd (at1 g 0 v 0) (mkT f ((m+1) / 2) fun k=> at1 g 0 v (2 * k+1)) (mkT f (m / 2) fun k=> at1 g 0 v (2 * k+2))
  have h1:(fun k=> at1 g 0 v (2 * k+1))=fun k=> g (2 * k+1):=funext fun k=> QF g v (by omega)
  have h2:(fun k=> at1 g 0 v (2 * k+2))=fun k=> g (2 * k+2):=funext fun k=> QF g v (by omega)
  rw[h1,h2];rfl
 |f+1,m+1,g,k+1,v=> by
  show(T.nd (g 0) _ _).set (k+1) v=T.nd (at1 g (k+1) v 0) (mkT f ((m+1) / 2) fun j=> at1 g (k+1) v (2 * j+1)) (mkT f (m / 2) fun j=> at1 g (k+1) v (2 * j+2))
  rw[zYU,QF g v (by omega)]
  rcases Nat.mod_two_eq_zero_or_one k with hk|hk
  ·rw[hk]
   show T.nd _ ((mkT f _ _).set (k / 2) v) _=_
   rw[QU]
   have h1:(fun j=> at1 g (k+1) v (2 * j+1))=at1 (fun j=> g (2 * j+1)) (k / 2) v:=by
    funext j
    by_cases hj:j=k / 2
    ·subst hj
     rw[zag,show 2 * (k / 2)+1=k+1 by omega,zag]
    ·rw[QF _ _ hj,QF _ _ (by omega)]
   have h2:(fun j=> at1 g (k+1) v (2 * j+2))=fun j=> g (2 * j+2):=funext fun j=> QF g v (by omega)
   rw[h1,h2]
  ·rw[hk]
   show T.nd _ _ ((mkT f _ _).set (k / 2) v)=_
   rw[QU]
   have h1:(fun j=> at1 g (k+1) v (2 * j+2))=at1 (fun j=> g (2 * j+2)) (k / 2) v:=by
    funext j
    by_cases hj:j=k / 2
    ·subst hj
     rw[zag,show 2 * (k / 2)+2=k+1 by omega,zag]
    ·rw[QF _ _ hj,QF _ _ (by omega)]
   have h2:(fun j=> at1 g (k+1) v (2 * j+1))=fun j=> g (2 * j+1):=funext fun j=> QF g v (by omega)
   rw[h1,h2]
theorem zwj:∀(f n:Nat) (g:Nat→α),n < 2 ^ f→mkT (f+1) n g=mkT f n g
 |0,n,g,h=> by obtain rfl:n=0:=by omega
               rfl
 |f+1,0,g,h=> rfl
 |f+1,m+1,g,h=> by
  have hp:2 ^ (f+1)=2 * 2 ^ f:=by rw[Nat.pow_succ];omega
  show T.nd (g 0) (mkT (f+1) ((m+1) / 2) _) (mkT (f+1) (m / 2) _)=_
  rw[zwj f _ _ (by omega),zwj f _ _ (by omega)];rfl
theorem zCK:∀(f n:Nat) (g:Nat→α) (v:α),n < 2 ^ f→(mkT f n g).push n v=mkT (f+1) (n+1) (at1 g n v)
 |0,n,g,v,h=> by obtain rfl:n=0:=by omega
                 show T.nd v _ _=T.nd (at1 g 0 v 0) _ _
                 rw[zag];rfl
 |f+1,0,g,v,h=> by
  show T.nd v _ _=T.nd (at1 g 0 v 0) _ _
  rw[zag]
  rfl
 |f+1,m+1,g,v,h=> by
  have hp:2 ^ (f+1)=2 * 2 ^ f:=by rw[Nat.pow_succ];omega
  show(T.nd (g 0) _ _).push (m+1) v=T.nd (at1 g (m+1) v 0) (mkT (f+1) ((m+1+1) / 2) fun j=> at1 g (m+1) v (2 * j+1)) (mkT (f+1) ((m+1) / 2) fun j=> at1 g (m+1) v (2 * j+2))
  rw[zYo,QF g v (by omega)]
  rcases Nat.mod_two_eq_zero_or_one m with hk|hk
  ·rw[hk]
   show T.nd _ ((mkT f _ _).push (m / 2) v) _=_
   have e1:(m+1) / 2=m / 2:=by omega
   have e2:(m+1+1) / 2=m / 2+1:=by omega
   rw[e1,zCK f _ _ _ (by omega),e2]
   have h1:(fun j=> at1 g (m+1) v (2 * j+1))=at1 (fun j=> g (2 * j+1)) (m / 2) v:=by
    funext j
    by_cases hj:j=m / 2
    ·subst hj
     rw[zag,show 2 * (m / 2)+1=m+1 by omega,zag]
    ·rw[QF _ _ hj,QF _ _ (by omega)]
   have h2:(fun j=> at1 g (m+1) v (2 * j+2))=fun j=> g (2 * j+2):=funext fun j=> QF g v (by omega)
   rw[h1,h2,zwj f (m / 2) (fun j=> g (2 * j+2)) (by omega)]
  ·rw[hk]
   show T.nd _ _ ((mkT f _ _).push (m / 2) v)=_
   have e1:(m+1) / 2=m / 2+1:=by omega
   have e2:(m+1+1) / 2=(m+1) / 2:=by omega
   rw[zCK f _ _ _ (by omega),e2]
   have h1:(fun j=> at1 g (m+1) v (2 * j+2))=at1 (fun j=> g (2 * j+2)) (m / 2) v:=by
    funext j
    by_cases hj:j=m / 2
    ·subst hj
     rw[zag,show 2 * (m / 2)+2=m+1 by omega,zag]
    ·rw[QF _ _ hj,QF _ _ (by omega)]
   have h2:(fun j=> at1 g (m+1) v (2 * j+1))=fun j=> g (2 * j+1):=funext fun j=> QF g v (by omega)
   rw[h1,h2,zwj f ((m+1) / 2) _ (by omega),e1]
def S (n:Nat) (f:Nat→V) (dfs:List D) (h:H):St:=⟨mkT 20 n f,dfs,h⟩
theorem ZJw {n:Nat} {f:Nat→V} {t:Nat} (h1:t < n) (h2:n < 1048576):(mkT 20 n f).get ZmM t=f t:=zwT _ _ _ _ _ h1 h2
def mkH (n:Nat) (g:Nat→Blk) (d:List Nat):H:=⟨mkT n n g,n,d⟩
theorem zDI:H.empty=mkH 0 (fun _=> .gone) []:=rfl
theorem Z7 (n:Nat) (g:Nat→Blk) (d:List Nat):(mkH n g d).n=n:=rfl
theorem Zj {n:Nat} {g:Nat→Blk} {d:List Nat} {r:Nat} (h:r < n):(mkH n g d).get r=g r:=zwT _ _ _ _ _ h Nat.lt_two_pow_self
theorem zYT (n:Nat) (g:Nat→Blk) (d:List Nat) (r:Nat) (b:Blk):(mkH n g d).set r b=mkH n (at1 g r b) (r::d):=by
 unfold mkH H.set
 rw[QU]
theorem zNV (n:Nat) (g:Nat→Blk) (d:List Nat) (b:Blk):(mkH n g d).new b=mkH (n+1) (at1 g n b) d:=by
 unfold mkH H.new
 rw[zCK _ _ _ _ Nat.lt_two_pow_self]
section
variable (P:Program) (hint:Hint) (known:Known)
theorem zDP (n:Nat):Tends (ev P hint known n) (fun p=> p (EV P hint known)):=
 ⟨zjx _,fun h=> (zkz P hint known).2 ⟨n,h⟩,fun h=> (zwy P hint known).2 ⟨n,h⟩⟩
theorem zaX (cx:Cx) (c:Code) (s:St):(EV P hint known).code cx c s=(ZEq P hint known cx.fn c).run (EV P hint known) cx s:=by
 cases h:(ZEq P hint known cx.fn c).run (EV P hint known) cx s with
 |some o=> exact zPe P hint known h
 |none=>
  cases h1:(EV P hint known).code cx c s with
  |none=> rfl
  |some o=>
   obtain⟨n,hn⟩:=(zwy P hint known).1 h1
   cases n with
   |zero=> cases hn
   |succ m=>
    have h2:=zyR (zDP P hint known m) (cx:=cx) (c:=c) (s:=s) (o:=o) hn
    exact absurd (h2.symm.trans h) (by simp)
theorem zPc (f:FuncId) (args:List V) (h:H):(EV P hint known).call f args h=ZEo P hint known (EV P hint known) f args h:=by
 cases h0:ZEo P hint known (EV P hint known) f args h with
 |some o=> exact zPd P hint known h0
 |none=>
  cases h1:(EV P hint known).call f args h with
  |none=> rfl
  |some o=>
   obtain⟨n,hn⟩:=(zkz P hint known).1 h1
   cases n with
   |zero=> cases hn
   |succ m=>
    have h2:=zyO (zDP P hint known m) (f:=f) (args:=args) (h:=h) (o:=o) hn
    exact absurd (h2.symm.trans h0) (by simp)
end
end
section
def ZgE:Code→Code
 |.seq a _=> a
 |.cond _ a _=> a
 |.block _ b=> b
 |.loop b=> b
 |.scope b=> b
 |.rangeFunc _ _ a _=> a
 |c=> c
def ZhX:Code→Code
 |.seq _ b=> b
 |.cond _ _ b=> b
 |.rangeFunc _ _ _ b=> b
 |c=> c
def Zh5:Code→Array Oper
 |.region _ ops _=> ops
 |_=> #[]
def thenV (x:Option (List (Ex×St))) (k:St→Option (List (Ex×St))):Option (List (Ex×St)):=
 match x with
 |some rs=> ZCA (fun r=> match r.1 with
  |.normal=> k r.2
  |_=> some [r]) rs
 |none=> none
theorem zY7 (x:Option (List (Ex×St))) (k:St→Option (List (Ex×St))):(match x with
 |some [(.normal,s)]=> k s
 |some rs=> ZCA (fun r=> match r.1 with
  |.normal=> k r.2
  |_=> some [r]) rs
 |none=> none)=thenV x k:=by
 rcases x with _|l
 ·rfl
 ·rcases l with _|⟨⟨x,s⟩,_|⟨b,l⟩⟩
  ·rfl
  ·cases x <;> rfl
  ·cases x <;> rfl
theorem ZF (s:St) (k:St→Option (List (Ex×St))):thenV (some [(.normal,s)]) k=k s:=rfl
theorem JC (s:St) (k:St→Option (List (Ex×St))):thenV (some [(.ret,s)]) k=some [(.ret,s)]:=rfl
theorem JB (s:St) (id:Nat) (k:St→Option (List (Ex×St))):thenV (some [(.exit id,s)]) k=some [(.exit id,s)]:=rfl
theorem zOE (E:Ev) (cx:Cx) (b:Code) (x:Option (List (Ex×St))):ZD5 E cx b x=thenV x (E.code cx b):=by
 rcases x with _|l
 ·rfl
 ·rcases l with _|⟨⟨x,s⟩,_|⟨b,l⟩⟩
  ·rfl
  ·cases x <;> rfl
  ·cases x <;> rfl
def Zbb (s:St) (d:Option Tmp) (x:Option Eff) (k:St→Option (List (Ex×St))):Option (List (Ex×St)):=
 match x with
 |some e=> k {s with regs:=put s.regs d e.v,h:=e.apply s.h}
 |none=> none
def Zmx (v:V) (w:Bool):Bool:=match v with
 |.bool b=> b==w
 |_=> false
def ZmY (v:V) (a b:St→Option (List (Ex×St))) (s:St):Option (List (Ex×St)):=
 match v with
 |.bool c=> cond c (a s) (b s)
 |_=> none
def ZmZ (id:Nat) (x:Option (List (Ex×St))):Option (List (Ex×St)):=
 match x with
 |some outs=> some (outs.map fun r=> match r.1 with
  |.exit i=> (if i=id then .normal else .exit i,r.2)
  |_=> r)
 |none=> none
theorem ZR (id:Nat) (s:St):ZmZ id (some [(.normal,s)])=some [(.normal,s)]:=rfl
theorem ZS (id:Nat) (s:St):ZmZ id (some [(.ret,s)])=some [(.ret,s)]:=rfl
theorem Zo (id:Nat) (s:St):ZmZ id (some [(.exit id,s)])=some [(.normal,s)]:=by
 show some [((if id=id then Ex.normal else .exit id),s)]=_
 rw[if_pos rfl]
theorem zyN {id i:Nat} (h:i≠id) (s:St):ZmZ id (some [(.exit i,s)])=some [(.exit i,s)]:=by
 show some [((if i=id then Ex.normal else .exit i),s)]=_
 rw[if_neg h]
structure Stp where
 d:Option Tmp
 g:Option (Tmp×Bool)
 x:T V→(Nat→Blk)→Nat→Option Eff
structure StpC where
 d:Option Tmp
 g:Option (Tmp×Bool)
 x:T V→Option Callee1
def ZGh (ops:Array Oper) (o:Oper) (k:Option (Tmp×Bool)→Option Stp):Option Stp:=
 match o.guard with
 |none=> k none
 |some (j,want)=> match (ops[j]?).bind (·.dst) with
  |none=> none
  |some d=> k (some (d,want))
def ZGF (ops:Array Oper) (o:Oper) (k:Option (Tmp×Bool)→Option StpC):Option StpC:=
 match o.guard with
 |none=> k none
 |some (j,want)=> match (ops[j]?).bind (·.dst) with
  |none=> none
  |some d=> k (some (d,want))
section
variable (P:Program) (hint:Hint) (known:Known)
def ZEH (fn:FuncId) (c:Code) (j:Nat):Option Stp:=
 match (Zh5 c).toList.drop j with
 |[]=> none
 |o::_=> match o.op with
  |.call cl=> match cl.callee with
   |.builtin _=> ZGh (Zh5 c) o fun g=> some ⟨o.dst,g,(exec P (hint.rows fn o.dst) o.op).run⟩
   |_=> none
  |.next _ false|.panic _|.defer _|.insert _ _ _ _=> none
  |_=> ZGh (Zh5 c) o fun g=> some ⟨o.dst,g,(exec P (hint.rows fn o.dst) o.op).run⟩
def ZFm (c:Code) (j:Nat):Option StpC:=
 match (Zh5 c).toList.drop j with
 |[]=> none
 |o::_=> match o.op with
  |.call cl=> match cl.callee with
   |.builtin _=> none
   |_=> ZGF (Zh5 c) o fun g=> some ⟨o.dst,g,(ZDu P cl).run⟩
  |_=> none
def Qc (cx:Cx) (c:Code) (s:St):Option (List (Ex×St)):=(EV P hint known).code cx c s
def Qo (c:Code) (j:Nat) (cx:Cx) (s:St):Option (List (Ex×St)):=
 (opsV P hint known cx.fn (Zh5 c) ((Zh5 c).toList.drop j)).run (EV P hint known) cx s
def ZCi (f:FuncId) (args:List V) (h:H):Option (List (R×H)):=
 if V.pures (V.seals args) then
  match ZC3 hint known (EV P hint known) f (V.seals args) h.n with
  |some es=> some (es.map fun e=> (cond e.pan (R.pan e.v) (R.ret e.v),e.apply h))
  |none=> none
 else (EV P hint known).call f args h
def ZDX (c:Option Callee1) (h:H):Option (List (R×H)):=
 match c with
 |some (.func f args)=> ZCi P hint known f args h
 |some (.round l args)=> match ZEi (EV P hint known) h l args with
  |some outs=> some (outs.map fun r=> (.ret r.1,r.2))
  |none=> none
 |none=> none
def ZCo (d:Option Tmp) (s:St) (x:Option (List (R×H))) (k:St→Option (List (Ex×St))):Option (List (Ex×St)):=
 match x with
 |some rs=> ZCA (fun r=> match r.1 with
  |.ret v=> k {s with regs:=put s.regs d v,h:=r.2}
  |.pan v=> some [(.pan v,{s with h:=r.2})]) rs
 |none=> none
variable {P hint known}
theorem zkA {c:Code} {j:Nat} {o:Oper} {l:List Oper} {cx:Cx} (h:(Zh5 c).toList.drop j=o::l) (s:St):
 Qo P hint known c j cx s=if (ZCO (Zh5 c) o).run s.regs then thenV ((op1 P hint known cx.fn o).run (EV P hint known) cx s) (Qo P hint known c (j+1) cx)
  else Qo P hint known c (j+1) cx {s with regs:=put s.regs o.dst ZmM}:=by
 have hl:l=(Zh5 c).toList.drop (j+1):=by
  have:=congrArg List.tail h
  rw[List.tail_drop] at this
  exact this.symm
 subst hl
 unfold Qo
 rw[h]
 show(if (ZCO (Zh5 c) o).run s.regs then
  match (op1 P hint known cx.fn o).run (EV P hint known) cx s with
  |some [(.normal,s)]=> (opsV P hint known cx.fn (Zh5 c) ((Zh5 c).toList.drop (j+1))).run (EV P hint known) cx s
  |some rs=> ZCA (fun r:Ex×St=> match r.1 with
   |.normal=> (opsV P hint known cx.fn (Zh5 c) ((Zh5 c).toList.drop (j+1))).run (EV P hint known) cx r.2
   |_=> some [r]) rs
  |none=> none
  else _)=_
 rw[zY7]
theorem zDf {ops:Array Oper} {o:Oper} (h:o.guard=none) (regs:T V):(ZCO ops o).run regs=true:=by
 unfold ZCO;rw[h]
theorem zO5 {ops:Array Oper} {o:Oper} {j:Nat} {w:Bool} {d:Tmp} (h:o.guard=some (j,w)) (hd:(ops[j]?).bind (·.dst)=some d) (regs:T V):(ZCO ops o).run regs=Zmx (regs.get ZmM d) w:=by
 unfold ZCO Zmx;rw[h];simp only;rw[hd];rfl
theorem zOR (s:St) (o:Oper) (x:Option Eff) (k:St→Option (List (Ex×St))):
 thenV (match x with|some e=> some [(Ex.normal,s.eff o e)]|none=> none) k=Zbb s o.dst x k:=by
 cases x <;> rfl
theorem zwW {c:Code} {o:Oper} {st:Stp} {x:T V→(Nat→Blk)→Nat→Option Eff} (h:ZGh (Zh5 c) o (fun g=> some ⟨o.dst,g,x⟩)=some st):
 st=⟨o.dst,st.g,x⟩∧∀regs,(ZCO (Zh5 c) o).run regs=match st.g with|none=> true|some (d,w)=> Zmx (regs.get ZmM d) w:=by
 unfold ZGh at h
 cases hg:o.guard with
 |none=>
  rw[hg] at h
  obtain rfl:=Option.some.inj h
  exact⟨rfl,fun regs=> zDf hg regs⟩
 |some p=>
  obtain⟨j,w⟩:=p
  rw[hg] at h
  simp only at h
  cases hd:((Zh5 c)[j]?).bind (·.dst) with
  |none=> rw[hd] at h;cases h
  |some d=>
   rw[hd] at h
   obtain rfl:=Option.some.inj h
   exact⟨rfl,fun regs=> zO5 hg hd regs⟩
theorem zza {c:Code} {o:Oper} {st:StpC} {x:T V→Option Callee1} (h:ZGF (Zh5 c) o (fun g=> some ⟨o.dst,g,x⟩)=some st):
 st=⟨o.dst,st.g,x⟩∧∀regs,(ZCO (Zh5 c) o).run regs=match st.g with|none=> true|some (d,w)=> Zmx (regs.get ZmM d) w:=by
 unfold ZGF at h
 cases hg:o.guard with
 |none=>
  rw[hg] at h
  obtain rfl:=Option.some.inj h
  exact⟨rfl,fun regs=> zDf hg regs⟩
 |some p=>
  obtain⟨j,w⟩:=p
  rw[hg] at h
  simp only at h
  cases hd:((Zh5 c)[j]?).bind (·.dst) with
  |none=> rw[hd] at h;cases h
  |some d=>
   rw[hd] at h
   obtain rfl:=Option.some.inj h
   exact⟨rfl,fun regs=> zO5 hg hd regs⟩
def ZFh:Op→Bool
 |.call c=> match c.callee with
  |.builtin _=> true
  |_=> false
 |.next _ false|.panic _|.defer _|.insert _ _ _ _=> false
 |_=> true
theorem zOb {fn:FuncId} {o:Oper} (h:ZFh o.op=true) (cx:Cx) (s:St) (E:Ev):
 (op1 P hint known fn o).run E cx s=match (exec P (hint.rows fn o.dst) o.op).run s.regs s.h.get s.h.n with
  |some e=> some [(.normal,s.eff o e)]
  |none=> none:=by
 unfold op1
 split
 ·rename_i c hc
  split
  ·rfl
  ·rename_i hb
   rw[hc] at h
   unfold ZFh at h
   simp only at h
   first|(split at h
          ·rename_i b hb';exact absurd hb' (hb b)
          ·cases h)|cases h
 ·rename_i x hx;rw[hx] at h;cases h
 ·rename_i x hx;rw[hx] at h;cases h
 ·rename_i c hc;rw[hc] at h;cases h
 ·rfl
theorem zyy {fn:FuncId} {c:Code} {j:Nat} {st:Stp} (h:ZEH P hint fn c j=some st):
 ∃o l,(Zh5 c).toList.drop j=o::l∧ZFh o.op=true∧ZGh (Zh5 c) o (fun g=> some ⟨o.dst,g,(exec P (hint.rows fn o.dst) o.op).run⟩)=some st:=by
 unfold ZEH at h
 split at h
 ·cases h
 ·rename_i o l hl
  refine⟨o,l,hl,?_⟩
  split at h
  ·rename_i cl hcl
   split at h
   ·rename_i b hb
    refine⟨?_,h⟩
    rw[hcl];unfold ZFh;simp only;rw[hb]
   ·cases h
  ·cases h
  ·cases h
  ·cases h
  ·cases h
  ·rename_i h1 h2 h3 h4 h5
   refine⟨?_,h⟩
   unfold ZFh
   split
   ·rename_i c hc;exact absurd hc (h1 c)
   ·rename_i x hx;exact absurd hx (h2 x)
   ·rename_i x hx;exact absurd hx (h3 x)
   ·rename_i x hx;exact absurd hx (h4 x)
   ·rename_i a b c d hx;exact absurd hx (h5 a b c d)
   ·rfl
theorem zPk {fn:FuncId} {r:Option Nat} {c:Code} {j:Nat} {d:Option Tmp} {x:T V→(Nat→Blk)→Nat→Option Eff} (h:ZEH P hint fn c j=some ⟨d,none,x⟩) (s:St):
 Qo P hint known c j ⟨fn,r⟩ s=Zbb s d (x s.regs s.h.get s.h.n) (Qo P hint known c (j+1) ⟨fn,r⟩):=by
 obtain⟨o,l,h1,h2,h3⟩:=zyy h
 obtain⟨h4,h5⟩:=zwW h3
 cases h4
 rw[zkA h1,h5,if_pos rfl,zOb h2,zOR]
theorem zPl {fn:FuncId} {r:Option Nat} {c:Code} {j:Nat} {d:Option Tmp} {g:Tmp} {w:Bool} {x:T V→(Nat→Blk)→Nat→Option Eff} (h:ZEH P hint fn c j=some ⟨d,some (g,w),x⟩) (s:St):
 Qo P hint known c j ⟨fn,r⟩ s=cond (Zmx (s.regs.get ZmM g) w) (Zbb s d (x s.regs s.h.get s.h.n) (Qo P hint known c (j+1) ⟨fn,r⟩)) (Qo P hint known c (j+1) ⟨fn,r⟩ {s with regs:=put s.regs d ZmM}):=by
 obtain⟨o,l,h1,h2,h3⟩:=zyy h
 obtain⟨h4,h5⟩:=zwW h3
 cases h4
 rw[zkA h1,h5,zOb h2,zOR]
 show(if Zmx (s.regs.get ZmM g) w=true then _ else _)=_
 cases hb:Zmx (s.regs.get ZmM g) w
 ·rw[if_neg (by simp)];rfl
 ·rw[if_pos rfl];rfl
theorem zOQ {o:Oper} {s:St} {c:Option Callee1} {k:St→Option (List (Ex×St))}:
 thenV (ZEa hint known (EV P hint known) o s c) k=ZCo o.dst s (ZDX P hint known c s.h) k:=by
 have key:∀(l:List Eff),thenV (some (l.map (s.effR o))) k=ZCo o.dst s (some (l.map fun e=> (cond e.pan (R.pan e.v) (R.ret e.v),e.apply s.h))) k:=by
  intro l
  show ZCA (fun r:Ex×St=> match r.1 with|.normal=> k r.2|_=> some [r]) (l.map (s.effR o))=ZCA (fun r:R×H=> match r.1 with
   |.ret v=> k {s with regs:=put s.regs o.dst v,h:=r.2}
   |.pan v=> some [(.pan v,{s with h:=r.2})]) (l.map fun e=> (cond e.pan (R.pan e.v) (R.ret e.v),e.apply s.h))
  have h1:∀e:Eff,(fun r:Ex×St=> match r.1 with|.normal=> k r.2|_=> some [r]) (s.effR o e)=(fun r:R×H=> match r.1 with
   |.ret v=> k {s with regs:=put s.regs o.dst v,h:=r.2}
   |.pan v=> some [(.pan v,{s with h:=r.2})]) (cond e.pan (R.pan e.v) (R.ret e.v),e.apply s.h):=by
   intro e
   unfold St.effR
   cases e.pan <;> rfl
  induction l with
  |nil=> rfl
  |cons e l ih=>
   cases l with
   |nil=> exact h1 e
   |cons e' l=>
    simp only[List.map_cons] at ih⊢
    unfold ZCA
    rw[ih]
    have:=h1 e
    simp only at this
    rw[this]
 have key2:∀(l:List (R×H)),thenV (some (l.map (s.resR o))) k=ZCo o.dst s (some l) k:=by
  intro l
  show ZCA (fun r:Ex×St=> match r.1 with|.normal=> k r.2|_=> some [r]) (l.map (s.resR o))=ZCA (fun r:R×H=> match r.1 with
   |.ret v=> k {s with regs:=put s.regs o.dst v,h:=r.2}
   |.pan v=> some [(.pan v,{s with h:=r.2})]) l
  have h1:∀e:R×H,(fun r:Ex×St=> match r.1 with|.normal=> k r.2|_=> some [r]) (s.resR o e)=(fun r:R×H=> match r.1 with
   |.ret v=> k {s with regs:=put s.regs o.dst v,h:=r.2}
   |.pan v=> some [(.pan v,{s with h:=r.2})]) e:=by
   rintro⟨v|v,h⟩ <;> rfl
  induction l with
  |nil=> rfl
  |cons e l ih=>
   cases l with
   |nil=> exact h1 e
   |cons e' l=>
    simp only[List.map_cons] at ih⊢
    unfold ZCA
    rw[ih]
    have:=h1 e
    simp only at this
    rw[this]
 unfold ZEa
 split
 ·rename_i f args
  show _=ZCo o.dst s (ZCi P hint known f args s.h) k
  unfold ZCi
  split
  ·rename_i hp
   cases hc:ZC3 hint known (EV P hint known) f (V.seals args) s.h.n with
   |none=> rfl
   |some es=>
    have:=key es
    cases es with
    |nil=> exact this
    |cons e es=>
     cases es with
     |nil=> exact this
     |cons e' es=> exact this
  ·cases hc:(EV P hint known).call f args s.h with
   |none=> rfl
   |some outs=> exact key2 outs
 ·rename_i l args
  show _=ZCo o.dst s (match ZEi (EV P hint known) s.h l args with
   |some outs=> some (outs.map fun r=> (R.ret r.1,r.2))
   |none=> none) k
  cases hc:ZEi (EV P hint known) s.h l args with
  |none=> rfl
  |some outs=>
   have:=key2 (outs.map fun r=> (.ret r.1,r.2))
   simp only[List.map_map] at this
   exact this
 ·rfl
theorem zC3 {c:Code} {j:Nat} {st:StpC} (h:ZFm P c j=some st):
 ∃o l cl,(Zh5 c).toList.drop j=o::l∧o.op=.call cl∧(∀b,cl.callee≠.builtin b)∧ZGF (Zh5 c) o (fun g=> some ⟨o.dst,g,(ZDu P cl).run⟩)=some st:=by
 unfold ZFm at h
 split at h
 ·cases h
 ·rename_i o l hl
  split at h
  ·rename_i cl hcl
   split at h
   ·cases h
   ·rename_i hb
    exact⟨o,l,cl,hl,hcl,hb,h⟩
  ·cases h
theorem zOa {fn:FuncId} {o:Oper} {cl:Call} (h:o.op=.call cl) (hb:∀b,cl.callee≠.builtin b) (cx:Cx) (s:St) (E:Ev):
 (op1 P hint known fn o).run E cx s=ZEa hint known E o s ((ZDu P cl).run s.regs):=by
 unfold op1
 rw[h]
 simp only
theorem zDh {fn:FuncId} {r:Option Nat} {c:Code} {j:Nat} {d:Option Tmp} {x:T V→Option Callee1} (h:ZFm P c j=some ⟨d,none,x⟩) (s:St):
 Qo P hint known c j ⟨fn,r⟩ s=ZCo d s (ZDX P hint known (x s.regs) s.h) (Qo P hint known c (j+1) ⟨fn,r⟩):=by
 obtain⟨o,l,cl,h1,h2,h2b,h3⟩:=zC3 h
 obtain⟨h4,h5⟩:=zza h3
 cases h4
 rw[zkA h1,h5,if_pos rfl,zOa h2 h2b,zOQ]
theorem zc {c:Code} {j:Nat} {cx:Cx} (h:(Zh5 c).toList.drop j=[]) (s:St):Qo P hint known c j cx s=some [(.normal,s)]:=by
 unfold Qo;rw[h];rfl
theorem za {c a b:Code} (h:c=.seq a b) (cx:Cx) (s:St):Qc P hint known cx c s=thenV (Qc P hint known cx a s) (Qc P hint known cx b):=by
 subst h
 rw[Qc,zaX]
 show ZD5 _ cx b _=_
 exact zOE _ _ _ _
theorem zl {c a b:Code} {t:Tmp} (h:c=.cond (.tmp t) a b) (cx:Cx) (s:St):Qc P hint known cx c s=ZmY (s.regs.get ZmM t) (Qc P hint known cx a) (Qc P hint known cx b) s:=by
 subst h
 rw[Qc,zaX]
 show(match rd s.regs (.tmp t) with
  |some (.bool true)=> (EV P hint known).code cx a s
  |some (.bool false)=> (EV P hint known).code cx b s
  |_=> none)=_
 unfold rd ZmY
 simp only
 cases s.regs.get ZmM t with
 |bool b=> cases b <;> rfl
 |_=> rfl
theorem zu {c b:Code} {id:Nat} (h:c=.block id b) (cx:Cx) (s:St):Qc P hint known cx c s=ZmZ id (Qc P hint known cx b s):=by
 subst h
 rw[Qc,zaX]
 rfl
theorem ZG {c b:Code} (h:c=.loop b) (cx:Cx) (s:St):Qc P hint known cx c s=thenV (Qc P hint known cx b s) (Qc P hint known cx c):=by
 subst h
 rw[Qc,zaX]
 show ZD5 _ cx (.loop b) _=_
 exact zOE _ _ _ _
theorem ZZp {c b:Code} (h:c=.scope b) (cx:Cx) (s:St):Qc P hint known cx c s=Qc P hint known cx b s:=by
 subst h
 rw[Qc,zaX]
 rfl
theorem Zx {c:Code} {id:Nat} (h:c=.exit id) (cx:Cx) (s:St):Qc P hint known cx c s=some [(.exit id,s)]:=by
 subst h
 rw[Qc,zaX]
 rfl
theorem Zb {c:Code} (h:c=.ret) (cx:Cx) (s:St):Qc P hint known cx c s=some [(.ret,s)]:=by
 subst h
 rw[Qc,zaX]
 rfl
theorem zp {c:Code} (h:c=.skip) (cx:Cx) (s:St):Qc P hint known cx c s=some [(.normal,s)]:=by
 subst h
 rw[Qc,zaX]
 rfl
theorem zDk {cx:Cx} {id:Nat} (hf:hint.fix cx.fn id=[]):∀rs:List (Ex×St),ZCT (fun r=> match r.1 with
 |.normal=> ZDK hint cx id r.2
 |_=> some r) rs=some rs
 |[]=> rfl
 |(x,s)::l=> by
  unfold ZCT
  rw[zDk hf l]
  have:(match (x,s).1 with
   |.normal=> ZDK hint cx id (x,s).2
   |_=> some (x,s))=some (x,s):=by
   cases x with
   |normal=>
    show ZDK hint cx id s=_
    unfold ZDK
    rw[hf]
   |_=> rfl
  simp only at this⊢
  rw[this]
theorem zb {c:Code} {id:Nat} {ops:Array Oper} (h:c=.region id ops false) {cx:Cx} (hf:hint.fix cx.fn id=[]) (s:St):Qc P hint known cx c s=Qo P hint known c 0 cx s:=by
 subst h
 rw[Qc,zaX]
 show(match (opsV P hint known cx.fn ops ops.toList).run (EV P hint known) cx s with
  |some rs=> ZCT (fun r=> match r.1 with
   |.normal=> ZDK hint cx id r.2
   |_=> some r) rs
  |none=> none)=(opsV P hint known cx.fn ops ops.toList).run (EV P hint known) cx s
 cases(opsV P hint known cx.fn ops ops.toList).run (EV P hint known) cx s with
 |none=> rfl
 |some rs=> exact zDk hf rs
end
end
section
def ZmH (s:St) (d:Option Tmp):St:={s with regs:=put s.regs d ZmM}
theorem Jq {n t:Nat} {f:Nat→V} {dfs:List D} {h:H}:ZmH (S n f dfs h) (some t)=S n (at1 f t ZmM) dfs h:=by
 show St.mk ((mkT 20 n f).set t ZmM) dfs h=_
 rw[QU];rfl
def ZhW (s:St) (d:Option Tmp) (i:Nat) (bef:List Nat) (dn:List (Nat×Foot)) (x:Option Eff) (k:List (Nat×Foot)→St→Option (List (Ex×St))):Option (List (Ex×St)):=
 match x with
 |some e=> match e with
  |⟨v,[],[],[],false⟩=> k dn {s with regs:=put s.regs d v}
  |e=> cond (dn.all fun p=> (bef.getD i 0).testBit p.1||(e.foot s.h.n).apart p.2) (k ((i,e.foot s.h.n)::dn) {s with regs:=put s.regs d e.v,h:=e.apply s.h}) none
 |none=> none
def ZFa (v:V) (args:List V):Option Callee1:=
 match v with
 |.fn (.func g) first cap=> some (.func g (first++args++cap))
 |.fn (.yield l) [] []=> some (.round l args)
 |_=> none
def okD (bef:List Nat) (i:Nat) (dn:List (Nat×Foot)) (ft:Foot):Bool:=dn.all fun p=> (bef.getD i 0).testBit p.1||ft.apart p.2
theorem Ja (bef:List Nat) (i:Nat) (ft:Foot):okD bef i [] ft=true:=rfl
theorem Z9 {bef:List Nat} {i j:Nat} {ft f:Foot} {dn:List (Nat×Foot)} (h:(bef.getD i 0).testBit j=true):okD bef i ((j,f)::dn) ft=okD bef i dn ft:=by
 show(((bef.getD i 0).testBit j||ft.apart f) && okD bef i dn ft)=_
 rw[h];rfl
theorem Jb {bef:List Nat} {i j:Nat} {a b:List Nat} {dn:List (Nat×Foot)}:okD bef i ((j,⟨b,[]⟩)::dn) ⟨a,[]⟩=okD bef i dn ⟨a,[]⟩:=by
 show(((bef.getD i 0).testBit j||Foot.apart ⟨a,[]⟩ ⟨b,[]⟩) && okD bef i dn ⟨a,[]⟩)=_
 have:Foot.apart ⟨a,[]⟩ ⟨b,[]⟩=true:=by
  show(true && true && apart a [])=true
  unfold apart
  simp
 rw[this,Bool.or_true];rfl
theorem zc9 {bef:List Nat} {i j:Nat} {ft f:Foot} {dn:List (Nat×Foot)} (h:ft.apart f=true):okD bef i ((j,f)::dn) ft=okD bef i dn ft:=by
 show(((bef.getD i 0).testBit j||ft.apart f) && okD bef i dn ft)=_
 rw[h,Bool.or_true];rfl
section
variable {n:Nat} {f:Nat→V} {dfs:List D} {h:H} {i:Nat} {bef:List Nat} {dn:List (Nat×Foot)} {k:List (Nat×Foot)→St→Option (List (Ex×St))}
theorem Jt {t:Tmp} {v:V}:ZhW (S n f dfs h) (some t) i bef dn (some {v:=v}) k=k dn (S n (at1 f t v) dfs h):=by
 show k dn ⟨(mkT 20 n f).set t v,dfs,h⟩=_
 rw[QU];rfl
theorem Js {t:Tmp} {v:V} {r:Nat} {rs:List Nat}:ZhW (S n f dfs h) (some t) i bef dn (some {v:=v,rd:=r::rs}) k=if okD bef i dn ⟨r::rs,[]⟩=true then k ((i,⟨r::rs,[]⟩)::dn) (S n (at1 f t v) dfs h) else none:=by
 rw[←Bool.cond_eq_ite]
 show cond (okD bef i dn ⟨r::rs,[]⟩) (k ((i,⟨r::rs,[]⟩)::dn) ⟨(mkT 20 n f).set t v,dfs,h⟩) none=_
 rw[QU];rfl
theorem Ju {v:V} {r r':Nat} {b:Blk}:ZhW (S n f dfs h) none i bef dn (some {v:=v,rd:=[r'],wr:=[(r,b)]}) k=if okD bef i dn ⟨[r'],[r]⟩=true then k ((i,⟨[r'],[r]⟩)::dn) (S n f dfs (h.set r b)) else none:=by
 rw[←Bool.cond_eq_ite];rfl
theorem Jr {t:Tmp} {v:V} {b:Blk}:ZhW (S n f dfs h) (some t) i bef dn (some {v:=v,nw:=[b]}) k=if okD bef i dn ⟨[],[h.n]⟩=true then k ((i,⟨[],[h.n]⟩)::dn) (S n (at1 f t v) dfs (h.new b)) else none:=by
 rw[←Bool.cond_eq_ite]
 show cond (okD bef i dn ⟨[],[h.n]⟩) (k ((i,⟨[],[h.n]⟩)::dn) ⟨(mkT 20 n f).set t v,dfs,h.new b⟩) none=_
 rw[QU];rfl
end
theorem Jc {bef:List Nat} {i j a b:Nat} {dn:List (Nat×Foot)} (h:a≠b):okD bef i ((j,⟨[b],[]⟩)::dn) ⟨[a],[a]⟩=okD bef i dn ⟨[a],[a]⟩:=zc9 (by simp[Foot.apart,apart,h])
theorem ZLP {bef:List Nat} {i j a b:Nat} {dn:List (Nat×Foot)} (h:a≠b):okD bef i ((j,⟨[b],[b]⟩)::dn) ⟨[a],[a]⟩=okD bef i dn ⟨[a],[a]⟩:=zc9 (by simp[Foot.apart,apart,h])
theorem ZLO {bef:List Nat} {i j a b:Nat} {dn:List (Nat×Foot)} (h:a≠b):okD bef i ((j,⟨[b],[b]⟩)::dn) ⟨[a],[]⟩=okD bef i dn ⟨[a],[]⟩:=zc9 (by simp[Foot.apart,apart,h])
section
variable (P:Program) (hint:Hint) (known:Known)
def Qd (c:Code) (bef:List Nat) (j:Nat) (cx:Cx) (dn:List (Nat×Foot)) (s:St):Option (List (Ex×St)):=
 match (ZCV P hint known cx.fn (Zh5 c) bef (((Zh5 c).toList.drop j).zipIdx j)).run (EV P hint known) dn s with
 |some s=> some [(.normal,s)]
 |none=> none
def Zm1 (fn:Func) (x:Option (List (Ex×St))):Option (List (R×H)):=
 match x with
 |some outs=> ZCT (ZDD P known (EV P hint known) fn) outs
 |none=> none
def ZCp (x:Option (List V)) (h:H):Option (List (R×H)):=
 match x with
 |some [v]=> some [(.ret v,h)]
 |some vs=> some [(.ret (.tup vs),h)]
 |none=> none
def ZCl:List V→Nat→(Nat→V)→Nat→V
 |[],_,f=> f
 |v::vs,i,f=> ZCl vs (i+1) (at1 f i v)
theorem zOI (n:Nat):∀(vs:List V) (i:Nat) (f:Nat→V),ZD6 vs i (mkT 20 n f)=mkT 20 n (ZCl vs i f)
 |[],_,_=> rfl
 |v::vs,i,f=> by
  show ZD6 vs (i+1) ((mkT 20 n f).set i v)=_
  rw[QU,zOI n vs];rfl
variable {P hint known}
theorem zX3 {bef:List Nat} {all:Array Oper} {o:Oper} {i j:Nat} {f f':Foot} (h:ZEQ o.op=false):ZDB bef all o i j f f'=((bef.getD i 0).testBit j||f.apart f'):=by
 unfold ZDB ZHa
 rw[h];simp
theorem zOe {op:Op} (h:ZFh op=true):ZEQ op=false:=by
 cases op <;> first|rfl|cases h
theorem zyH {c:Code} {bef:List Nat} {j:Nat} {o:Oper} {l:List Oper} {cx:Cx} (h:(Zh5 c).toList.drop j=o::l) (hi:ZEQ o.op=false) (dn:List (Nat×Foot)) (s:St):
 Qd P hint known c bef j cx dn s=if (ZCO (Zh5 c) o).run s.regs then ZhW s o.dst j bef dn ((opD P hint known cx.fn o).run (EV P hint known) s.regs s.h.get s.h.n) (Qd P hint known c bef (j+1) cx)
  else Qd P hint known c bef (j+1) cx dn {s with regs:=put s.regs o.dst ZmM}:=by
 have hl:l=(Zh5 c).toList.drop (j+1):=by
  have:=congrArg List.tail h
  rw[List.tail_drop] at this
  exact this.symm
 subst hl
 unfold Qd
 rw[h,List.zipIdx_cons]
 show(match (if (ZCO (Zh5 c) o).run s.regs then
  match (opD P hint known cx.fn o).run (EV P hint known) s.regs s.h.get s.h.n with
  |some e=> match e with
   |⟨v,[],[],[],false⟩=> (ZCV P hint known cx.fn (Zh5 c) bef (((Zh5 c).toList.drop (j+1)).zipIdx (j+1))).run (EV P hint known) dn {s with regs:=put s.regs o.dst v}
   |e=> if dn.all (fun (i,f')=> ZDB bef (Zh5 c) o j i (e.foot s.h.n) f') then (ZCV P hint known cx.fn (Zh5 c) bef (((Zh5 c).toList.drop (j+1)).zipIdx (j+1))).run (EV P hint known) ((j,e.foot s.h.n)::dn) (s.eff o e) else none
  |none=> none
  else (ZCV P hint known cx.fn (Zh5 c) bef (((Zh5 c).toList.drop (j+1)).zipIdx (j+1))).run (EV P hint known) dn {s with regs:=put s.regs o.dst ZmM}) with
  |some s=> some [(Ex.normal,s)]
  |none=> none)=_
 by_cases hw:(ZCO (Zh5 c) o).run s.regs=true
 ·rw[if_pos hw,if_pos hw]
  cases(opD P hint known cx.fn o).run (EV P hint known) s.regs s.h.get s.h.n with
  |none=> rfl
  |some e=>
   have key:∀e:Eff,(match (if dn.all (fun (i,f')=> ZDB bef (Zh5 c) o j i (e.foot s.h.n) f') then (ZCV P hint known cx.fn (Zh5 c) bef (((Zh5 c).toList.drop (j+1)).zipIdx (j+1))).run (EV P hint known) ((j,e.foot s.h.n)::dn) (s.eff o e) else none) with
    |some s=> some [(Ex.normal,s)]
    |none=> none)=cond (dn.all fun p=> (bef.getD j 0).testBit p.1||(e.foot s.h.n).apart p.2) (Qd P hint known c bef (j+1) cx ((j,e.foot s.h.n)::dn) {s with regs:=put s.regs o.dst e.v,h:=e.apply s.h}) none:=by
    intro e
    have:(fun x:Nat×Foot=> match x with|(i,f')=> ZDB bef (Zh5 c) o j i (e.foot s.h.n) f')=fun p=> (bef.getD j 0).testBit p.1||(e.foot s.h.n).apart p.2:=funext fun p=> zX3 hi
    rw[this]
    cases hb:dn.all fun p=> (bef.getD j 0).testBit p.1||(e.foot s.h.n).apart p.2
    ·rfl
    ·rfl
   obtain⟨v,rd,wr,nw,pan⟩:=e
   rcases rd with _|⟨r,rd⟩
   ·rcases wr with _|⟨w,wr⟩
    ·rcases nw with _|⟨b,nw⟩
     ·cases pan
      ·rfl
      ·exact key _
     ·exact key _
    ·exact key _
   ·exact key _
 ·rw[if_neg hw,if_neg hw]
theorem zOc {fn:FuncId} {o:Oper} (h:ZFh o.op=true) (E:Ev) (regs:T V) (get:Nat→Blk) (n:Nat):
 (opD P hint known fn o).run E regs get n=(exec P (hint.rows fn o.dst) o.op).run regs get n:=by
 unfold opD
 split
 ·rename_i c hc
  split
  ·rfl
  ·rename_i hb
   rw[hc] at h
   unfold ZFh at h
   simp only at h
   first|(split at h
          ·rename_i b hb';exact absurd hb' (hb b)
          ·cases h)|cases h
 ·rfl
theorem zPf {fn:FuncId} {r:Option Nat} {c:Code} {bef:List Nat} {j:Nat} {d:Option Tmp} {x:T V→(Nat→Blk)→Nat→Option Eff} (h:ZEH P hint fn c j=some ⟨d,none,x⟩) (dn:List (Nat×Foot)) (s:St):
 Qd P hint known c bef j ⟨fn,r⟩ dn s=ZhW s d j bef dn (x s.regs s.h.get s.h.n) (Qd P hint known c bef (j+1) ⟨fn,r⟩):=by
 obtain⟨o,l,h1,h2,h3⟩:=zyy h
 obtain⟨h4,h5⟩:=zwW h3
 cases h4
 rw[zyH h1 (zOe h2),h5,if_pos rfl,zOc h2]
theorem zPm {fn:FuncId} {r:Option Nat} {c:Code} {j:Nat} {d:Option Tmp} {g:Tmp} {w:Bool} {x:T V→(Nat→Blk)→Nat→Option Eff} (h:ZEH P hint fn c j=some ⟨d,some (g,w),x⟩) (s:St):
 Qo P hint known c j ⟨fn,r⟩ s=if Zmx (s.regs.get ZmM g) w=true then Zbb s d (x s.regs s.h.get s.h.n) (Qo P hint known c (j+1) ⟨fn,r⟩) else Qo P hint known c (j+1) ⟨fn,r⟩ {s with regs:=put s.regs d ZmM}:=by
 rw[←Bool.cond_eq_ite];exact zPl h s
def ZF4 (P:Program) (hint:Hint) (fn:FuncId) (c:Code) (j:Nat) (regs:T V) (get:Nat→Blk) (nid:Nat):Option (Option Tmp×Option (Tmp×Bool)×Option Eff):=
 (ZEH P hint fn c j).map fun st=> (st.d,st.g,st.x regs get nid)
def ZF3 (P:Program) (c:Code) (j:Nat) (regs:T V):Option (Option Tmp×Option (Tmp×Bool)×Option Callee1):=
 (ZFm P c j).map fun st=> (st.d,st.g,st.x regs)
theorem zyA {fn:FuncId} {c:Code} {j:Nat} {regs:T V} {get:Nat→Blk} {nid:Nat} {d:Option Tmp} {g:Option (Tmp×Bool)} {e:Option Eff} (h:ZF4 P hint fn c j regs get nid=some (d,g,e)):∃x,ZEH P hint fn c j=some ⟨d,g,x⟩∧x regs get nid=e:=by
 unfold ZF4 at h
 cases hs:ZEH P hint fn c j with
 |none=> rw[hs] at h;cases h
 |some st=>
  rw[hs] at h
  obtain⟨d',g',x⟩:=st
  cases h
  exact⟨x,rfl,rfl⟩
theorem zyz {c:Code} {j:Nat} {regs:T V} {d:Option Tmp} {g:Option (Tmp×Bool)} {e:Option Callee1} (h:ZF3 P c j regs=some (d,g,e)):∃x,ZFm P c j=some ⟨d,g,x⟩∧x regs=e:=by
 unfold ZF3 at h
 cases hs:ZFm P c j with
 |none=> rw[hs] at h;cases h
 |some st=>
  rw[hs] at h
  obtain⟨d',g',x⟩:=st
  cases h
  exact⟨x,rfl,rfl⟩
section
variable {fn:FuncId} {r:Option Nat} {c:Code} {bef:List Nat} {j:Nat} {d:Option Tmp} {g:Tmp} {w:Bool} {e:Option Eff} {ce:Option Callee1} {dn:List (Nat×Foot)} {s:St}
theorem oR (h:ZF4 P hint fn c j s.regs s.h.get s.h.n=some (d,none,e):=by kernel_rfl):Qo P hint known c j ⟨fn,r⟩ s=Zbb s d e (Qo P hint known c (j+1) ⟨fn,r⟩):=by
 obtain⟨x,h1,rfl⟩:=zyA h
 exact zPk h1 s
theorem oI (h:ZF4 P hint fn c j s.regs s.h.get s.h.n=some (d,some (g,w),e):=by kernel_rfl):Qo P hint known c j ⟨fn,r⟩ s=if Zmx (s.regs.get ZmM g) w=true then Zbb s d e (Qo P hint known c (j+1) ⟨fn,r⟩) else Qo P hint known c (j+1) ⟨fn,r⟩ (ZmH s d):=by
 obtain⟨x,h1,rfl⟩:=zyA h
 exact zPm h1 s
theorem dR (h:ZF4 P hint fn c j s.regs s.h.get s.h.n=some (d,none,e):=by kernel_rfl):Qd P hint known c bef j ⟨fn,r⟩ dn s=ZhW s d j bef dn e (Qd P hint known c bef (j+1) ⟨fn,r⟩):=by
 obtain⟨x,h1,rfl⟩:=zyA h
 exact zPf h1 dn s
theorem cR {f:FuncId} {args:List V} (h:ZF3 P c j s.regs=some (d,none,some (.func f args)):=by kernel_rfl):Qo P hint known c j ⟨fn,r⟩ s=ZCo d s (ZCi P hint known f args s.h) (Qo P hint known c (j+1) ⟨fn,r⟩):=by
 obtain⟨x,h1,h2⟩:=zyz h
 rw[zDh h1 s,h2];rfl
end
theorem JJ {c:Code} {bef:List Nat} {j:Nat} {cx:Cx} (h:(Zh5 c).toList.drop j=[]) (dn:List (Nat×Foot)) (s:St):Qd P hint known c bef j cx dn s=some [(.normal,s)]:=by
 unfold Qd;rw[h];rfl
theorem JI {c:Code} {id:Nat} {ops:Array Oper} {bef:List Nat} (h:c=.region id ops true) (hr:ZFj ops=true) (hb:(Region.before ops).toList=bef) {cx:Cx} (hf:hint.fix cx.fn id=[]) (s:St):
 Qc P hint known cx c s=Qd P hint known c bef 0 cx [] s:=by
 subst h;subst hb
 rw[Qc,zaX]
 unfold ZEq
 simp only[if_true]
 rw[if_pos hr]
 show(match (ZCV P hint known cx.fn ops (Region.before ops).toList ops.toList.zipIdx).run (EV P hint known) [] s with
      |some s=> match ZDK hint cx id s with
       |some r=> some [r]
       |none=> none
      |none=> none)=(match (ZCV P hint known cx.fn ops (Region.before ops).toList ops.toList.zipIdx).run (EV P hint known) [] s with
      |some s=> some [(Ex.normal,s)]
      |none=> none)
 cases(ZCV P hint known cx.fn ops (Region.before ops).toList ops.toList.zipIdx).run (EV P hint known) [] s with
 |none=> rfl
 |some s=>
  simp only
  unfold ZDK
  rw[hf]
theorem Qu {f:FuncId} {fn:Func} {c:Code} {n:Nat} (hf:P.funcs[f]?=some fn) (hc:fn.body=some c) (hn:fn.ntmps=n) (hn2:n < 1048576) (hfr:hint.frame f=false) {args:List V} (ha:args.length≤n) (h:H):
 (EV P hint known).call f args h=Zm1 P hint known fn (Qc P hint known ⟨f,none⟩ c (S n (ZCl args 0 fun _=> ZmM) [] h)):=by
 rw[zPc]
 unfold ZEo
 rw[hfr]
 show(ZDL P known f).run (EV P hint known) args h=_
 unfold ZDL
 rw[hf]
 simp only
 rw[hc]
 show(if Nat.ble args.length fn.ntmps && Nat.blt fn.ntmps 1048576 then
      match (EV P hint known).code {fn:=f,round:=none} c {regs:=ZD6 args 0 (T.fill ZmM 20 fn.ntmps),dfs:=[],h:=h} with
      |some outs=> ZCT (ZDD P known (EV P hint known) fn) outs
      |none=> none
  else none)=_
 rw[hn,if_pos,zwP,zOI]
 ·rfl
 ·rw[Bool.and_eq_true]
  exact⟨Nat.ble_eq ▸ ha,by rw[Nat.blt_eq];exact hn2⟩
theorem Zc {fn:Func} {l:List ResultVar} (hl:fn.results.toList=l) {x:Ex} (hx:x=.ret∨x=.normal) (regs:T V) (h:H):
 Zm1 P hint known fn (some [(x,⟨regs,[],h⟩)])=ZCp (ZCk P ⟨regs,[],h⟩ l) h:=by
 have h1:ZDD P known (EV P hint known) fn (x,⟨regs,[],h⟩)=match ZD2 P fn ⟨regs,[],h⟩ with
  |some v=> some (.ret v,h)
  |none=> none:=by
  rcases hx with rfl|rfl <;> rfl
 show ZCT _ _=_
 unfold ZCT
 rw[h1]
 unfold ZD2 ZCp
 rw[hl]
 cases ZCk P ⟨regs,[],h⟩ l with
 |none=> rfl
 |some vs=>
  rcases vs with _|⟨v,_|⟨w,vs⟩⟩ <;> rfl
theorem zPN {f:FuncId} {args args':List V} {v:V} {h1:H} (hs:V.seals args=args') (hp:V.pures args'=true) (hk:known.call f args'=none) (hh:hint.heap f=false)
 (hc:(EV P hint known).call f args' H.empty=some [(.ret v,h1)]) (n:Nat) (e:Eff) (he:ZD3 n h1 v=some e) (hpan:e.pan=false) (h:H) (hn:h.n=n):
 ZCi P hint known f args h=some [(.ret e.v,e.apply h)]:=by
 subst hs;subst hn
 unfold ZCi
 rw[if_pos hp]
 have:ZC3 hint known (EV P hint known) f (V.seals args) h.n=some [e]:=by
  unfold ZC3
  rw[hk]
  simp only
  rw[hc]
  simp only
  have hl:ZE0 hint f h.n (.ret v,h1)=some e:=by
   show(if hint.heap f then _ else _)=_
   rw[if_neg (by rw[hh];simp),he]
  unfold ZCT
  rw[hl]
  rfl
 rw[this]
 show some [(cond e.pan (R.pan e.v) (R.ret e.v),e.apply h)]=_
 rw[hpan];rfl
theorem zwH {f:FuncId} {args:List V} (hp:V.pures (V.seals args)=false) (h:H):ZCi P hint known f args h=(EV P hint known).call f args h:=by
 unfold ZCi
 rw[hp];rfl
def ZDl (P:Program) (hm:Bool) (t:TypeId) (len:Nat) (parts:List (Nat×V)) (nid:Nat):Option Eff:=
 match ZE1 P t len parts with
 |some (cs,sz)=> ZF8 hm nid len cs sz
 |none=> none
theorem ZZo {c a b:Code} {t:Tmp} {ps:List Tmp} {pa:Array Tmp} (h:c=.rangeFunc (.tmp t) pa a b) (hp:pa.toList=ps) {fn n:Nat} {f:Nat→V} {dfs:List D} {hh:H}
 {gf:FuncId} {first cap:List V} (hf:(S n f dfs hh).regs.get ZmM t=V.fn (.func gf) first cap):
 Qc P hint known ⟨fn,none⟩ c (S n f dfs hh)=match (EV P hint known).call gf (first++[V.fn (.yield (hh.n+1)) [] []]++cap) ((hh.new .dfr).new (.loop fn (mkT 20 n f) ps a b none .ready hh.n)) with
  |some outs=> ZCA (ZEh (EV P hint known) ⟨fn,none⟩ (S n f dfs hh) (.mark hh.n::dfs) (hh.n+1)) outs
  |none=> none:=by
 subst h;subst hp
 rw[Qc,zaX]
 show(match rangeAt ⟨fn,none⟩ (S n f dfs hh),rd (S n f dfs hh).regs (.tmp t) with
  |some (d,dfs,h),some (V.fn (.func g) first cap)=>
   match (EV P hint known).call g (first++[V.fn (.yield h.n) [] []]++cap) (h.new (.loop fn (S n f dfs hh).regs pa.toList a b none .ready d)) with
   |some outs=> ZCA (ZEh (EV P hint known) ⟨fn,none⟩ (S n f dfs hh) dfs h.n) outs
   |none=> none
  |_,_=> none)=_
 have h1:rangeAt ⟨fn,none⟩ (S n f dfs hh)=some (hh.n,.mark hh.n::dfs,hh.new .dfr):=rfl
 have h2:rd (S n f dfs hh).regs (.tmp t)=some (V.fn (.func gf) first cap):=congrArg some hf
 rw[h1,h2]
 rfl
def ZMZ:List Tmp→List V→(Nat→V)→Nat→V
 |t::ts,v::vs,f=> ZMZ ts vs (at1 f t v)
 |_,_,f=> f
theorem ZTO (n:Nat):∀(ts:List Tmp) (vs:List V) (f:Nat→V),ZFl ts vs (mkT 20 n f)=mkT 20 n (ZMZ ts vs f)
 |[],vs,f=> by cases vs <;> rfl
 |t::ts,[],f=> rfl
 |t::ts,v::vs,f=> by
  show ZFl ts vs ((mkT 20 n f).set t v)=mkT 20 n (ZMZ ts vs (at1 f t v))
  rw[QU,ZTO n ts vs]
end
end
section
def cellV (P:Program) (t:TypeId) (h:H) (v:V):Option V:=
 match v with
 |.ptr r off=> match h.get r with
  |.row _ cs=> if off≤cs.length then ZCC P t (cs.drop off) else none
  |_=> none
 |_=> none
section
variable {P:Program} {hint:Hint} {known:Known} {n:Nat} {f:Nat→V} {dfs:List D} {h:H} {k:St→Option (List (Ex×St))}
theorem ZH:(S n f dfs h).dfs=dfs:=rfl
theorem S_h:(S n f dfs h).h=h:=rfl
theorem Zk {t:Nat} (h1:t < n) (h2:n < 1048576):T.get ZmM (S n f dfs h).regs t=f t:=ZJw h1 h2
theorem ZE {t:Tmp} {v:V}:Zbb (S n f dfs h) (some t) (some {v:=v}) k=k (S n (at1 f t v) dfs h):=by
 show k ⟨(mkT 20 n f).set t v,dfs,h⟩=_
 rw[QU];rfl
theorem Jx {t:Tmp} {e:Eff}:Zbb (S n f dfs h) (some t) (some e) k=k (S n (at1 f t e.v) dfs (e.apply h)):=by
 show k ⟨(mkT 20 n f).set t e.v,dfs,e.apply h⟩=_
 rw[QU];rfl
theorem Jw {e:Eff}:Zbb (S n f dfs h) none (some e) k=k (S n f dfs (e.apply h)):=rfl
theorem Zw {t:Tmp} {v:V} {h':H}:ZCo (some t) (S n f dfs h) (some [(.ret v,h')]) k=k (S n (at1 f t v) dfs h'):=by
 show k ⟨(mkT 20 n f).set t v,dfs,h'⟩=_
 rw[QU];rfl
theorem Zz {v:V} {rs:List Nat}:Eff.apply {v:=v,rd:=rs} h=h:=rfl
theorem ZM {v:V} {rs:List Nat} {r:Nat} {b:Blk}:Eff.apply {v:=v,rd:=rs,wr:=[(r,b)]} h=h.set r b:=rfl
theorem ZK {v:V} {rs:List Nat} {b:Blk}:Eff.apply {v:=v,rd:=rs,nw:=[b]} h=h.new b:=rfl
theorem ZL {v:V} {rs:List Nat} {r:Nat} {b c:Blk}:Eff.apply {v:=v,rd:=rs,wr:=[(r,b)],nw:=[c]} h=(h.set r b).new c:=rfl
theorem JD {b w:Bool}:Zmx (.bool b) w=(b==w):=rfl
theorem ZCD {v:V}:val (some v)=some {v:=v}:=rfl
theorem Zt {a b:St→Option (List (Ex×St))} {s:St}:ZmY (.bool true) a b s=a s:=rfl
theorem Z0 {a b:St→Option (List (Ex×St))} {s:St}:ZmY (.bool false) a b s=b s:=rfl
theorem ZP {op:BinOp} {t:TypeId} {cx cy:Bool} {k k':IntKind} {a b:Int}:ZmJ P op t cx cy (.int k a) (.int k' b)=ZmK op k a k' b:=rfl
theorem ZQ {op:BinOp} {t:TypeId} {cx cy:Bool} {a b:ByteArray}:ZmJ P op t cx cy (.str a) (.str b)=ZF5 op a b:=rfl
theorem zq {a b:Int}:ZmK .add .i64 a .i64 b=some (.int .i64 (IntKind.wrap .i64 (a+b))):=rfl
theorem zB {a b:Int}:ZmK .sub .i64 a .i64 b=some (.int .i64 (IntKind.wrap .i64 (a - b))):=rfl
theorem zz {a b:Int}:ZmK .eql .i64 a .i64 b=some (.bool (a==b)):=rfl
theorem zA {a b:Int}:ZmK .neq .i64 a .i64 b=some (.bool (a !=b)):=rfl
theorem zo {a b:Int}:ZmK .lss .i64 a .i64 b=some (.bool (decide (a < b))):=rfl
theorem Z5 {a b:Int}:ZmK .leq .i64 a .i64 b=some (.bool (decide (a≤b))):=rfl
theorem zr {a b:Int}:ZmK .gtr .i64 a .i64 b=some (.bool (decide (a > b))):=rfl
theorem zO {a b:Int}:ZmK .geq .i64 a .i64 b=some (.bool (decide (a ≥ b))):=rfl
theorem Jy {a b:ByteArray}:ZF5 .eql a b=some (.bool (a.data.toList==b.data.toList)):=rfl
theorem Jz {a b:ByteArray}:ZF5 .neq a b=some (.bool (!(a.data.toList==b.data.toList))):=rfl
theorem JG {c:Bool} {a b:V}:ZCE (.bool c) a b=some {v:=if c then a else b}:=rfl
theorem JH {b:Bool}:xUn .not (.bool b)=some {v:=.bool !b}:=rfl
theorem ZI {r off m:Nat}:ZmN (.ptr r off) m=some (.ptr r (off+m)):=rfl
theorem Zy {cs:List V} {m:Nat} (hm:m≤cs.length):ZmN (.iptr cs) m=some (.iptr (cs.drop m)):=if_pos hm
theorem JF {r o:Nat}:ZCn P (.ptr r o)=some {v:=.ptr r o}:=rfl
theorem Jo {s:St}:ZCk P s []=some []:=rfl
theorem Jn {s:St} {r:ResultVar} {rs:List ResultVar}:ZCk P s (r::rs)=match ZE3 P s r,ZCk P s rs with
 |some v,some vs=> some (v::vs)
 |_,_=> none:=rfl
theorem Jm {t:Tmp} (h1:t < n) (h2:n < 1048576):ZE3 P (S n f dfs h) (.tmp t)=some (f t):=congrArg some (ZJw h1 h2)
theorem ZLQ {a:Tmp} {t:TypeId} (h1:a < n) (h2:n < 1048576):ZE3 P (S n f dfs h) (.cell a t)=cellV P t h (f a):=by
 unfold ZE3 cellV
 simp only
 rw[Zk h1 h2];rfl
theorem ZV {t:TypeId} {r off:Nat}:cellV P t h (.ptr r off)=match h.get r with
      |.row _ cs=> if off≤cs.length then ZCC P t (cs.drop off) else none
      |_=> none:=rfl
theorem Jk {v:V}:ZCp (some [v]) h=some [(.ret v,h)]:=rfl
theorem Jl {v w:V} {vs:List V}:ZCp (some (v::w::vs)) h=some [(.ret (.tup (v::w::vs)),h)]:=rfl
theorem Jj:ZCp (some []) h=some [(.ret (.tup []),h)]:=rfl
def ZGf (place:Nat→Option (Nat×Nat)) (cells:List V):List (Nat×List V)→Option (List V)
 |[]=> some cells
 |(i,c)::rest=> match place i with
  |none=> none
  |some (off,size)=> if c.length=size then
   match splice cells c off with|some cs=> ZGf place cs rest|none=> none
   else none
def ZFN (P:Program) (t:TypeId) (parts:List (Nat×List V)):Option V:=
 match zeroOf P t with
 |none=> none
 |some z=> match und P t with
  |.struct fs=> if fs.toList.all (fun f=> okT P f.type) then (ZGf (fun i=> fs.toList[i]?.map fun f=> (f.offset,ZmI P f.type)) z.cells parts).map .agg else none
  |.array _ e=> if okT P e then (ZGf (fun i=> some (i * ZmI P e,ZmI P e)) z.cells parts).map .agg else none
  |_=> none
theorem zDS (place:Nat→Option (Nat×Nat)):∀(parts:List (Nat×V)) (cells:List V),ZDJ place cells parts=ZGf place cells (parts.map fun p=> (p.1,p.2.cells))
 |[],_=> rfl
 |(i,v)::rest,cells=> by
  show(match place i with
   |none=> none
   |some (off,size)=> if v.cells.length=size then
    match splice cells v.cells off with|some cs=> ZDJ place cs rest|none=> none
    else none)=(match place i with
   |none=> none
   |some (off,size)=> if v.cells.length=size then
    match splice cells v.cells off with|some cs=> ZGf place cs (rest.map fun p=> (p.1,p.2.cells))|none=> none
    else none)
  rcases place i with _|⟨off,size⟩
  ·rfl
  ·simp only
   cases splice cells v.cells off with
   |none=> rfl
   |some cs=> simp only;rw[zDS place rest cs]
theorem ZT {t:TypeId} {parts:List (Nat×V)}:build P t parts=ZFN P t (parts.map fun p=> (p.1,p.2.cells)):=by
 unfold build ZFN
 simp only[zDS]
 cases zeroOf P t with
 |none=> rfl
 |some z=> cases und P t <;> rfl
theorem zK {g:FuncId} {first cap args:List V}:ZFa (.fn (.func g) first cap) args=some (.func g (first++args++cap)):=rfl
theorem ZU {l:Nat} {args:List V}:ZFa (.fn (.yield l) [] []) args=some (.round l args):=rfl
theorem zL {g:FuncId} {args:List V}:ZDX P hint known (some (.func g args)) h=ZCi P hint known g args h:=rfl
theorem JA {v:V} {h':H}:ZCo none (S n f dfs h) (some [(.ret v,h')]) k=k (S n f dfs h'):=rfl
def ZhY (n:Nat) (Q:Ex→(Nat→V)→Nat→(Nat→Blk)→Prop) (x:Option (List (Ex×St))):Prop:=
 ∃e f nb g d,x=some [(e,S n f [] (mkH nb g d))]∧Q e f nb g
theorem ZhY.mk {n:Nat} {Q:Ex→(Nat→V)→Nat→(Nat→Blk)→Prop} {e:Ex} {f:Nat→V} {nb:Nat} {g:Nat→Blk} {d:List Nat} (h:Q e f nb g):ZhY n Q (some [(e,S n f [] (mkH nb g d))]):=⟨e,f,nb,g,d,rfl,h⟩
theorem ZhY.weak {n:Nat} {Q Q':Ex→(Nat→V)→Nat→(Nat→Blk)→Prop} {x:Option (List (Ex×St))} (h:ZhY n Q x) (hq:∀e f nb g,Q e f nb g→Q' e f nb g):ZhY n Q' x:=by
 obtain⟨e,f,nb,g,d,hx,h⟩:=h
 exact⟨e,f,nb,g,d,hx,hq _ _ _ _ h⟩
def ZCm (Q:V→Nat→(Nat→Blk)→Prop) (x:Option (List (R×H))):Prop:=∃v nb g d,x=some [(.ret v,mkH nb g d)]∧Q v nb g
theorem ZCm.mk {Q:V→Nat→(Nat→Blk)→Prop} {v:V} {nb:Nat} {g:Nat→Blk} {d:List Nat} (h:Q v nb g):ZCm Q (some [(.ret v,mkH nb g d)]):=⟨v,nb,g,d,rfl,h⟩
theorem za4 {x:Int} (h0: -9223372036854775808≤x) (h1:x < 9223372036854775808):IntKind.wrap .i64 x=x:=by
 unfold IntKind.wrap
 simp[IntKind.bits,IntKind.signed]
 omega
def atB (g:Nat→Blk) (i:Nat) (b:Blk):Nat→Blk:=at1 g i b
theorem ZO (g:Nat→Blk) (i:Nat) (b:Blk):atB g i b i=b:=zag g i b
theorem ZN {i j:Nat} (g:Nat→Blk) (b:Blk) (h:j≠i):atB g i b j=g j:=QF g b h
theorem Jp (n:Nat) (g:Nat→Blk) (d:List Nat) (r:Nat) (b:Blk):(mkH n g d).set r b=mkH n (atB g r b) (r::d):=zYT n g d r b
theorem Z8 (n:Nat) (g:Nat→Blk) (d:List Nat) (b:Blk):(mkH n g d).new b=mkH (n+1) (atB g n b) d:=zNV n g d b
theorem zt {f:Nat→V} {i j:Nat} {v:V}:at1 f i v j=if j=i then v else f j:=rfl
theorem Je {k:IntKind} {x:Int}:V.one (.int k x)=true:=rfl
theorem Jd {x:Bool}:V.one (.bool x)=true:=rfl
theorem Jh {x:ByteArray}:V.one (.str x)=true:=rfl
theorem Jg {r o:Nat}:V.one (.ptr r o)=true:=rfl
theorem Jf:V.one .nils=true:=rfl
theorem Ji {cs:List V} {n z:Nat} {o:Own}:V.one (.vs cs n z o)=true:=rfl
theorem ZB {k:IntKind} {x:Int}:V.cells (.int k x)=[.int k x]:=rfl
theorem max2 {get:Nat→Blk} {nid:Nat} {ts:List TypeId} {k k':IntKind} {a b:Int}:ZmL P false get nid .max ts [.int k a,.int k' b]=some {v:=.int k (if a < b then b else a)}:=by
 cases ts <;> rfl
theorem ZLI:(true=true)=True:=eq_true rfl
theorem JE {w:Bool}:Zmx ZmM w=false:=rfl
theorem ZW {cs:List V}:V.cells (.agg cs)=cs:=rfl
theorem ZA {x:Bool}:V.cells (.bool x)=[.bool x]:=rfl
theorem ZY {x:ByteArray}:V.cells (.str x)=[.str x]:=rfl
theorem ZX {r o:Nat}:V.cells (.ptr r o)=[.ptr r o]:=rfl
theorem JO:V.cells .nils=[.nils]:=rfl
theorem ZZ {cs:List V} {n z:Nat} {o:Own}:V.cells (.vs cs n z o)=[.vs cs n z o]:=rfl
theorem Z1 {a:V} {l:List V}:ZC6 (.tup (a::l)) 0=some {v:=a}:=rfl
theorem Z2 {a b:V} {l:List V}:ZC6 (.tup (a::b::l)) 1=some {v:=b}:=rfl
theorem Z3 {a b c:V} {l:List V}:ZC6 (.tup (a::b::c::l)) 2=some {v:=c}:=rfl
theorem Z4 {a b c d:V} {l:List V}:ZC6 (.tup (a::b::c::d::l)) 3=some {v:=d}:=rfl
def ZCv (n:Nat) (h:H) (Q:Ex→(Nat→V)→Prop) (x:Option (List (Ex×St))):Prop:=∃e f,x=some [(e,S n f [] h)]∧Q e f
theorem ZCv.mk {n:Nat} {h:H} {Q:Ex→(Nat→V)→Prop} {e:Ex} {f:Nat→V} (hq:Q e f):ZCv n h Q (some [(e,S n f [] h)]):=⟨e,f,rfl,hq⟩
theorem ZCv.weak {n:Nat} {h:H} {Q Q':Ex→(Nat→V)→Prop} {x:Option (List (Ex×St))} (h1:ZCv n h Q x) (hq:∀e f,Q e f→Q' e f):ZCv n h Q' x:=by
 obtain⟨e,f,hx,h⟩:=h1
 exact⟨e,f,hx,hq _ _ h⟩
end
end
section
theorem ZhY.then {n:Nat} {Q Q':Ex→(Nat→V)→Nat→(Nat→Blk)→Prop} {x:Option (List (Ex×St))} {k:St→Option (List (Ex×St))} (h:ZhY n Q x) (hk:∀f nb g d,Q .normal f nb g→ZhY n Q' (k (S n f [] (mkH nb g d))))
 (ho:∀e f nb g,e≠.normal→Q e f nb g→Q' e f nb g):ZhY n Q' (thenV x k):=by
 obtain⟨e,f,nb,g,d,rfl,hq⟩:=h
 cases e with
 |normal=> exact hk f nb g d hq
 |_=> exact⟨_,f,nb,g,d,rfl,ho _ _ _ _ (by simp) hq⟩
theorem ZhY.block {n id:Nat} {Q Q':Ex→(Nat→V)→Nat→(Nat→Blk)→Prop} {x:Option (List (Ex×St))} (h:ZhY n Q x) (he:∀f nb g,Q (.exit id) f nb g→Q' .normal f nb g)
 (ho:∀e f nb g,e≠.exit id→Q e f nb g→Q' e f nb g):ZhY n Q' (ZmZ id x):=by
 obtain⟨e,f,nb,g,d,rfl,hq⟩:=h
 by_cases hi:e=.exit id
 ·subst hi
  rw[Zo]
  exact⟨_,f,nb,g,d,rfl,he _ _ _ hq⟩
 ·have:ZmZ id (some [(e,S n f [] (mkH nb g d))])=some [(e,S n f [] (mkH nb g d))]:=by
   cases e with
   |exit i=> exact zyN (fun hh=> hi (by rw[hh])) _
   |_=> rfl
  rw[this]
  exact⟨_,f,nb,g,d,rfl,ho _ _ _ _ hi hq⟩
theorem zyL {α β:Type} {f:α→Option (List β)} {Q:β→Prop}:∀{l:List α},(∀x∈l,∃o,f x=some o∧∀y∈o,Q y)→∃o,ZCA f l=some o∧∀y∈o,Q y
 |[],_=> ⟨[],rfl,fun y h=> by cases h⟩
 |[x],h=> h x List.mem_cons_self
 |x::y::l,h=> by
  obtain⟨o,h1,h2⟩:=h x List.mem_cons_self
  obtain⟨o',h3,h4⟩:=zyL (l:=y::l) fun z hz=> h z (List.mem_cons_of_mem _ hz)
  refine⟨o++o',?_,fun z hz=> ?_⟩
  ·show(match f x,ZCA f (y::l) with
    |some a,some b=> some (a++b)
    |_,_=> none)=_
   rw[h1,h3]
  ·rcases List.mem_append.1 hz with hz|hz
   ·exact h2 z hz
   ·exact h4 z hz
def ZDi (Q:Ex→St→Prop) (x:Option (List (Ex×St))):Prop:=∃l,x=some l∧∀r∈l,Q r.1 r.2
theorem ZDi.one {Q:Ex→St→Prop} {e:Ex} {s:St} (h:Q e s):ZDi Q (some [(e,s)]):=⟨_,rfl,fun r hr=> by rw[List.mem_singleton.1 hr];exact h⟩
theorem ZDi.weak {Q Q':Ex→St→Prop} {x:Option (List (Ex×St))} (h:ZDi Q x) (hq:∀e s,Q e s→Q' e s):ZDi Q' x:=by
 obtain⟨l,h1,h2⟩:=h
 exact⟨l,h1,fun r hr=> hq _ _ (h2 r hr)⟩
theorem ZDi.thenV {Q Q':Ex→St→Prop} {x:Option (List (Ex×St))} {k:St→Option (List (Ex×St))} (h:ZDi Q x) (hk:∀s,Q .normal s→ZDi Q' (k s)) (ho:∀e s,Q e s→e≠.normal→Q' e s):ZDi Q' (Ae.thenV x k):=by
 obtain⟨l,rfl,h2⟩:=h
 obtain⟨o,h3,h4⟩:=zyL (f:=fun r:Ex×St=> match r.1 with
  |.normal=> k r.2
  |_=> some [r]) (Q:=fun r=> Q' r.1 r.2) (l:=l) fun r hr=> by
   obtain⟨e,s⟩:=r
   have:=h2 _ hr
   cases e with
   |normal=> exact hk s this
   |_=> exact⟨_,rfl,fun y hy=> by rw[List.mem_singleton.1 hy];exact ho _ _ this (by simp)⟩
 exact⟨o,h3,h4⟩
theorem ZDi.block {Q Q':Ex→St→Prop} {x:Option (List (Ex×St))} {id:Nat} (h:ZDi Q x) (he:∀s,Q (.exit id) s→Q' .normal s) (ho:∀e s,Q e s→e≠.exit id→Q' e s):ZDi Q' (ZmZ id x):=by
 obtain⟨l,rfl,h2⟩:=h
 refine⟨_,rfl,fun r hr=> ?_⟩
 obtain⟨⟨e,s⟩,h3,rfl⟩:=List.mem_map.1 hr
 have:=h2 _ h3
 cases e with
 |exit i=>
  simp only
  by_cases hi:i=id
  ·subst hi;rw[if_pos rfl];exact he _ this
  ·rw[if_neg hi];exact ho _ _ this (fun hh=> hi (by cases hh;rfl))
 |_=> exact ho _ _ this (by simp)
variable {P:Program} {hint:Hint} {known:Known}
def nextS (s:St) (d:Option Tmp) (es:Option (List Eff)) (k:St→Option (List (Ex×St))):Option (List (Ex×St)):=
 match es with
 |some es=> ZCA (fun e:Eff=> k {s with regs:=put s.regs d e.v,h:=e.apply s.h}) es
 |none=> none
theorem ZDi.next {Q:Ex→St→Prop} {s:St} {d:Option Tmp} {es:List Eff} {k:St→Option (List (Ex×St))} (h:∀e∈es,ZDi Q (k {s with regs:=put s.regs d e.v,h:=e.apply s.h})):ZDi Q (nextS s d (some es) k):=by
 obtain⟨o,h1,h2⟩:=zyL (f:=fun e:Eff=> k {s with regs:=put s.regs d e.v,h:=e.apply s.h}) (Q:=fun r=> Q r.1 r.2) (l:=es) h
 exact⟨o,h1,h2⟩
theorem Jv {n:Nat} {f:Nat→V} {dfs:List D} {h:H} {i:Nat} {bef:List Nat} {dn:List (Nat×Foot)} {k:List (Nat×Foot)→St→Option (List (Ex×St))} {t:Tmp} {v:V} {r r':Nat} {b:Blk}:
 ZhW (S n f dfs h) (some t) i bef dn (some {v:=v,rd:=[r'],wr:=[(r,b)]}) k=if okD bef i dn ⟨[r'],[r]⟩=true then k ((i,⟨[r'],[r]⟩)::dn) (S n (at1 f t v) dfs (h.set r b)) else none:=by
 rw[←Bool.cond_eq_ite]
 show cond (okD bef i dn ⟨[r'],[r]⟩) (k ((i,⟨[r'],[r]⟩)::dn) ⟨(mkT 20 n f).set t v,dfs,h.set r b⟩) none=_
 rw[QU];rfl
section
variable {bef:List Nat} {i j a b:Nat} {dn:List (Nat×Foot)}
end
section
variable {n:Nat} {f:Nat→V} {dfs:List D} {hh:H} {t:Tmp} {k:St→Option (List (Ex×St))}
theorem zNZ (e:Eff):({(S n f dfs hh) with regs:=put (S n f dfs hh).regs (some t) e.v,h:=e.apply (S n f dfs hh).h}:St)=S n (at1 f t e.v) dfs (e.apply hh):=by
 show St.mk ((mkT 20 n f).set t e.v) dfs (e.apply hh)=_
 rw[QU];rfl
theorem ZDi.nextS {Q:Ex→St→Prop} {es:List Eff} (h:∀e∈es,ZDi Q (k (S n (at1 f t e.v) dfs (e.apply hh)))):ZDi Q (Ae.nextS (S n f dfs hh) (some t) (some es) k):=
 ZDi.next fun e he=> by rw[zNZ];exact h e he
end
section
variable {P:Program} {hint:Hint} {known:Known} {c a b:Code} {cx:Cx} {s:St} {dn:List (Nat×Foot)} {j:Nat} {bef:List Nat}
theorem qS (h:c=.seq a b:=by kernel_rfl):Qc P hint known cx c s=thenV (Qc P hint known cx a s) (Qc P hint known cx b):=za h cx s
theorem qC {t:Tmp} (h:c=.cond (.tmp t) a b:=by kernel_rfl):Qc P hint known cx c s=ZmY (s.regs.get ZmM t) (Qc P hint known cx a) (Qc P hint known cx b) s:=zl h cx s
theorem qB {id:Nat} (h:c=.block id b:=by kernel_rfl):Qc P hint known cx c s=ZmZ id (Qc P hint known cx b s):=zu h cx s
theorem qL (h:c=.loop b:=by kernel_rfl):Qc P hint known cx c s=thenV (Qc P hint known cx b s) (Qc P hint known cx c):=ZG h cx s
theorem qE {id:Nat} (h:c=.exit id:=by kernel_rfl):Qc P hint known cx c s=some [(.exit id,s)]:=Zx h cx s
theorem qR (h:c=.ret:=by kernel_rfl):Qc P hint known cx c s=some [(.ret,s)]:=Zb h cx s
theorem qK (h:c=.skip:=by kernel_rfl):Qc P hint known cx c s=some [(.normal,s)]:=zp h cx s
theorem qG (id:Nat) (h:c=.region id (Zh5 c) false:=by kernel_rfl) (hf:hint.fix cx.fn id=[]:=by kernel_rfl):Qc P hint known cx c s=Qo P hint known c 0 cx s:=zb h hf s
theorem qD (id:Nat) (h:c=.region id (Zh5 c) true:=by kernel_rfl) (hr:ZFj (Zh5 c)=true:=by kernel_rfl) (hb:(Region.before (Zh5 c)).toList=bef:=by kernel_rfl) (hf:hint.fix cx.fn id=[]:=by kernel_rfl):Qc P hint known cx c s=Qd P hint known c bef 0 cx [] s:=JI h hr hb hf s
theorem qe (h:(Zh5 c).toList.drop j=[]:=by kernel_rfl):Qo P hint known c j cx s=some [(.normal,s)]:=zc h s
theorem qd (h:(Zh5 c).toList.drop j=[]:=by kernel_rfl):Qd P hint known c bef j cx dn s=some [(.normal,s)]:=JJ h dn s
end
end
end
end Go.Ae
end
