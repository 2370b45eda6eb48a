/- The abstract evaluator: regions, code. -/
import Derived.Test.YtapdblnejhijnaaGreatA4
import Derived.RangeFuncRecord
import Derived.RangeFuncLeaves
import Derived.Scope
import Derived.RecoverIn
set_option linter.all false
noncomputable section
namespace Go.Ae
section
section
variable {P:Program}
def exR (g:G) (h:H):Ex→Exit→Prop
 |.normal,e=> e=.normal
 |.exit id,e=> e=.exit id
 |.ret,e=> e=.ret
 |.pan v,e=> ∃x,e=.panic [{v:=x,recovered:=false}]∧vr g.I (g.at h.get h.n) v x
def ZDC (cx:Cx) (s:St):Prop:=∀l,cx.round=some l→l < s.h.n∧(s.h.get l).firm=true
theorem ZDC.ext {cx:Cx} {s s':St} {g g':G} {w w':World} (h:ZDC cx s) (e:ZCX g s.h w g' s'.h w'):ZDC cx s':=fun l hl=> by
 obtain⟨h1,h2⟩:=h l hl
 exact⟨Nat.lt_of_lt_of_le h1 e.n_le,(e.ids l h1 h2).1⟩
theorem zyZ {cx:Cx} {s s':St} {g g':G} {w w':World} (h:ZDC cx s) (e:ZCX g s.h w g' s'.h w'):ZC7 g' cx.round=ZC7 g cx.round:=by
 cases hr:cx.round with
 |none=> rfl
 |some l=>
  obtain⟨h1,h2⟩:=h l hr
  show Fence.wide.inRound (g'.mu l)=Fence.wide.inRound (g.mu l)
  rw[(e.ids l h1 h2).2.1]
def ZEm (P:Program) (cx:Cx) (c:Code) (s:St) (outs:List (Ex×St)):Prop:=
 ∀(g:G) (a:Act) (w:World),SR g s a w→ZDC cx s→
  c.wpIn (ZC7 g cx.round) 0 P (fun e a' w'=> ∃r∈outs,∃g',exR g' r.2.h r.1 e∧SR g' r.2 a' w'∧ZCX g s.h w g' r.2.h w') a w
structure EvOk (P:Program) (E:Ev):Prop where
 call:∀f args h outs,E.call f args h=some outs→ZDj P f∧ZDt P f args h outs
 code:∀cx c s outs,E.code cx c s=some outs→ZEm P cx c s outs
structure KnOk (P:Program) (known:Known):Prop where
 ok:ZHO P known
 body:∀f args v,known.call f args=some v→ZDj P f
 frm:∀f args (h:H) rs e,known.callE f args (rs.map fun r=> (r,h.get r)) h.n=some e→(∀r∈rs,r < h.n)→h.n < 2 ^ 20→reach h.get 1000 (V.idss args) []=some rs→ZDj P f∧ZDt P f args h [(.ret e.v,e.apply h)]
def ZFp (P:Program) (o:Oper) (cx:Cx) (s:St) (rs:List (Ex×St)):Prop:=
 ∀(g:G) (a:Act) (w:World) (K:Act→World→Prop) (Q:Exit→Act→World→Prop),SR g s a w→ZDC cx s→
  (∀s',(.normal,s')∈rs→∀g' a' w',SR g' s' a' w'→ZCX g s.h w g' s'.h w'→K a' w')→
  (∀v s',(.pan v,s')∈rs→∀g' a' w' x,SR g' s' a' w'→ZCX g s.h w g' s'.h w'→vr g'.I (g'.at s'.h.get s'.h.n) v x→Q (.panic [{v:=x,recovered:=false}]) a' w')→o.wpIn (ZC7 g cx.round) 0 P a w K Q
theorem zDx {g:G} {r:Option Nat} {n:Nat} {f:FuncId} {xs:Array Value} {w:World} {R:Ending→World→Prop} (h:CallsIn Fence.wide n P f xs w R):CallsIn (ZC7 g r) n P f xs w R:=by
 cases r with
 |none=> exact h
 |some l=> exact h
theorem zOf {o:Oper} {cx:Cx} {s:St} {hm:Bool} {e:Eff} (hnd:∀c,o.op≠.defer c) (hx:(exec P hm o.op).run s.regs s.h.get s.h.n=some e):ZFp P o cx s [(.normal,s.eff o e)]:=by
 intro g a w K Q hS hcx hk hp
 obtain⟨x,w',g',h1,h2,h3⟩:=zQh hS (zyW hS.wr zEc hS.rr hx)
 exact zy7 hnd h1 (hk _ (List.mem_singleton.2 rfl) g' _ w' h2 h3)
theorem zNz {g:G} {s:St} {a:Act} {w w':World} (hS:SR g s a w) {o:Oper} {e:Eff} {x:Value} (hl:ZDH g s.h.get s.h.n w s.h.n e x w'):
 ∃g',SR g' (s.eff o e) (a.put o.dst x) w'∧ZCX g s.h w g' (s.eff o e).h w':=by
 obtain⟨g',hW,hE,hv⟩:=hl
 obtain⟨k1,k2,k3⟩:=e.apply_get hS.wf
 have k3':∀j,j < e.top s.h.n s.h.n→e.upd s.h.get s.h.n j=(e.apply s.h).get j:=fun j hj=> (k3 j (by rw[k2];exact hj)).symm
 have ha:=zde (g:=g') k3'
 have hE':Ext g s.h.get s.h.n w g' (e.apply s.h).get (e.apply s.h).n w':=by rw[k2];exact hE.congr (fun _ _=> rfl) k3'
 refine⟨g',⟨k1,?_,?_,?_⟩,hE'⟩
 ·show RR g'.I (g'.at (e.apply s.h).get (e.apply s.h).n) (put s.regs o.dst e.v) _
  refine zda (hE'.rr hS.rr) o.dst ?_
  rw[k2,←ha];exact hv
 ·show WR g' (e.apply s.h).get (e.apply s.h).n w'
  rw[k2];exact hW.congr k3'
 ·show dfR g' (e.apply s.h).get (e.apply s.h).n s.dfs _
  rw[zaa]
  exact Ql hE' hS.df
theorem zWz {g:G} {s:St} {a:Act} {w w':World} (hS:SR g s a w) {e:Eff} {x:Value} (hl:ZDH g s.h.get s.h.n w s.h.n e x w'):
 ∃g',SR g' {s with h:=e.apply s.h} a w'∧ZCX g s.h w g' (e.apply s.h) w'∧vr g'.I (g'.at (e.apply s.h).get (e.apply s.h).n) e.v x:=by
 obtain⟨g',hW,hE,hv⟩:=hl
 obtain⟨k1,k2,k3⟩:=e.apply_get hS.wf
 have k3':∀j,j < e.top s.h.n s.h.n→e.upd s.h.get s.h.n j=(e.apply s.h).get j:=fun j hj=> (k3 j (by rw[k2];exact hj)).symm
 have ha:=zde (g:=g') k3'
 have hE':Ext g s.h.get s.h.n w g' (e.apply s.h).get (e.apply s.h).n w':=by rw[k2];exact hE.congr (fun _ _=> rfl) k3'
 refine⟨g',⟨k1,hE'.rr hS.rr,?_,Ql hE' hS.df⟩,hE',?_⟩
 ·show WR g' (e.apply s.h).get (e.apply s.h).n w'
  rw[k2];exact hW.congr k3'
 ·rw[k2,←ha];exact hv
theorem zwJ {g:G} {r:Option Nat} {o:Oper} {c:Call} {a:Act} {w:World} (ho:o.op=.call c) {f:FuncId} {xs:Array Value} (h:(execOp a.eval o).run P w=.ok (.enter f xs) w)
 {R:Ending→World→Prop} (hc:CallsIn Fence.wide 0 P f xs w R) {K:Act→World→Prop} {Q:Exit→Act→World→Prop} (hk:∀e w',R e w'→∃p x,ZGd p x e∧if p then Q (.panic [{v:=x,recovered:=false}]) a w' else K (a.put o.dst x) w'):o.wpIn (ZC7 g r) 0 P a w K Q:=by
 refine⟨fun f _=> za6 g r f,?_⟩
 rw[Oper.semAt_eq _ _ _ (fun c'=> by rw[ho];exact Op.noConfusion),h,Oper.uponIn_enter]
 refine⟨fun hd=> (by rw[zyY] at hd;cases hd),zDx (hc.mono ?_)⟩
 intro e w' hr
 obtain⟨p,x,he,hK⟩:=hk e w' hr
 unfold ZGd at he
 subst he
 cases p <;> exact hK
theorem zEb {h:H} (k:Nat):ZDV h.get h.n h.n k:=⟨Nat.le_refl _,fun j a _ c=> by omega⟩
theorem zYf {hint:Hint} {known:Known} {E:Ev} (hE:EvOk P E) (hK:KnOk P known) {o:Oper} {c:Call} (ho:o.op=.call c) {cx:Cx} {s:St} {f:FuncId} {args:List V} (hc:(ZDu P c).run s.regs=some (.func f args))
 {rs:List (Ex×St)} (hs:ZEa hint known E o s (some (.func f args))=some rs):ZFp P o cx s rs:=by
 intro g a w K Q hS hcx hk hp
 simp only[ZEa] at hs
 split at hs
 ·rename_i hpu
  cases hcp:ZC3 hint known E f (V.seals args) s.h.n with
  |none=> simp[hcp] at hs
  |some es=>
   have hss:rs=es.map (s.effR o):=by
    simp only[hcp] at hs
    split at hs
    ·rename_i e he
     obtain rfl:=Option.some.inj hs
     obtain rfl:=Option.some.inj he
     rfl
    ·rename_i es' he
     obtain rfl:=Option.some.inj hs
     obtain rfl:=Option.some.inj he
     rfl
    ·rename_i he;cases he
   have hb:ZDj P f:=by
    unfold ZC3 at hcp
    split at hcp
    ·rename_i v hv;exact hK.body _ _ _ hv
    ·split at hcp
     ·rename_i outs ho;exact(hE.call _ _ _ _ ho).1
     ·cases hcp
   obtain⟨xs,h1,h2⟩:=zwI (w:=w) ho hS.rr hc hb
   refine zwJ ho h1 (zkI hK.ok (fun f args outs ho=> (hE.call _ _ _ _ ho).2) hcp hpu hS.wr (zaW h2) (fun e _=> zEb _)) ?_
   rintro en w' ⟨x,e,he,hen,hl⟩
   have hm:s.effR o e∈rs:=by rw[hss];exact List.mem_map_of_mem he
   refine⟨e.pan,x,hen,?_⟩
   cases hpan:e.pan with
   |true=>
    have hm':(.pan e.v,{s with h:=e.apply s.h})∈rs:=by unfold St.effR at hm;rw[hpan] at hm;exact hm
    obtain⟨g',q1,q2,q3⟩:=zWz hS hl
    exact hp _ _ hm' g' a w' x q1 q2 q3
   |false=>
    have hm':(.normal,s.eff o e)∈rs:=by unfold St.effR at hm;rw[hpan] at hm;exact hm
    obtain⟨g',q1,q2⟩:=zNz (o:=o) hS hl
    exact hk _ hm' g' _ w' q1 q2
 ·split at hs
  ·rename_i outs hcl
   obtain rfl:=Option.some.inj hs
   obtain⟨hb,hok⟩:=hE.call _ _ _ _ hcl
   obtain⟨xs,h1,h2⟩:=zwI (w:=w) ho hS.rr hc hb
   refine zwJ ho h1 (hok g xs w hS.wf hS.wr h2) ?_
   rintro en w' ⟨x,r,hr,hen,g',q1,q2,q3,q4⟩
   refine⟨r.1.isPan,x,hen,?_⟩
   have hm:s.resR o r∈outs.map (s.resR o):=List.mem_map_of_mem hr
   obtain⟨rv,h'⟩:=r
   cases rv with
   |ret v=>
    refine hk (s.res o (v,h')) hm g' _ w' ⟨q1,zda (q3.rr hS.rr) o.dst q4,q2,?_⟩ q3
    show dfR g' h'.get h'.n s.dfs _
    rw[zaa]
    exact Ql q3 hS.df
   |pan v=>
    exact hp v _ hm g' a w' x ⟨q1,q3.rr hS.rr,q2,Ql q3 hS.df⟩ q3 q4
  ·cases hs
end
section
variable {P:Program}
section
variable {g:G} {get:Nat→Blk} {n:Nat} {w:World}
theorem WR.set_loop (h:WR g get n w) {r:Nat} (hr:r < n) {fn:FuncId} {regs:T V} {ps:List Tmp} {asg body:Code} {pend:Option Code} {st:LoopState} {d:Nat} (hg:get r=.loop fn regs ps asg body pend st d)
 {L:Loop} (hL:w.heap[g.mu r]?=some (.loop L)) {st':LoopState} {pend':Option Code} {L':Loop} (hL':L'={L with state:=st',pending:=pend'}):
 WR g (upd get r (.loop fn regs ps asg body pend' st' d)) n (w.putObj (g.mu r) (.loop L'))∧Ext g get n w g (upd get r (.loop fn regs ps asg body pend' st' d)) n (w.putObj (g.mu r) (.loop L')):=by
 refine h.set_obj hr (by rw[hg];rfl) (by rw[hg];rfl) hL (by simp) (by simp) rfl ?_ ?_ ?_
 ·intro j m ver left cur _ _ _ _ es ver' he;cases he
 ·intro e
  have hb:=h.blk r hr
  rw[hg] at hb
  obtain⟨L0,h1,h2,h3,h5,h6,h7,h8,h9,h10,h11⟩:=hb
  rw[hL] at h1
  cases h1
  subst hL'
  refine⟨{L with state:=st',pending:=pend'},by simp[QG hL],rfl,rfl,h5,h6,h7,e.rr h8,h9,?_,h11⟩
  exact(e.ids d h9 h10).1
 ·intro es ver he;rw[hg] at he;cases he
end
theorem zOG {I:Imm} {A:At}:∀{ts:List Tmp} {vs:List V} {xs:List Value} {regs:T V} {tmps:Array Value},RR I A regs tmps→vrl I A vs xs→vs.length=ts.length→
 RR I A (ZFl ts vs regs) ((ts.zip xs).foldl (fun tmps (t,a)=> tmps.setIfInBounds t a) tmps)
 |[],[],xs,regs,tmps,hR,hv,_=> by simp only[vrl] at hv;subst hv;exact hR
 |t::ts,v::vs,xs,regs,tmps,hR,hv,hl=> by
  rw[vrl] at hv
  obtain⟨y,ys,rfl,h1,h2⟩:=hv
  show RR I A (ZFl ts vs (regs.set t v)) ((ts.zip ys).foldl _ (tmps.setIfInBounds t y))
  exact zOG (hR.set t h1) h2 (by simpa using hl)
 |[],_::_,_,_,_,_,_,hl=> by simp at hl
 |_::_,[],_,_,_,_,_,hl=> by simp at hl
theorem zZu (ps:Array Tmp) (xs tmps:Array Value):(ps.zip xs).foldl (fun tmps (t,a)=> tmps.setIfInBounds t a) tmps=(ps.toList.zip xs.toList).foldl (fun tmps (t,a)=> tmps.setIfInBounds t a) tmps:=by
 rw[←Array.foldl_toList,Array.toList_zip]
theorem H.set_upd {h:H} (hw:h.wf) {r:Nat} (hr:r < h.n) (b:Blk) (j:Nat):(h.set r b).get j=upd h.get r b j:=by
 rw[H.get_set hw]
 unfold upd
 by_cases hj:j=r
 ·rw[if_pos ⟨hj,hr⟩,if_pos hj]
 ·rw[if_neg (fun hh=> hj hh.1),if_neg hj]
theorem H.set_upd' {h:H} (hw:h.wf) {r:Nat} (hr:r < h.n) (b:Blk):(h.set r b).get=upd h.get r b:=funext fun j=> H.set_upd hw hr b j
theorem zQA (g:G) (r:Option Nat) (l:Nat):(ZC7 g r).inRound (g.mu l)=ZC7 g (some l):=by cases r <;> rfl
theorem zYi {hint:Hint} {known:Known} {E:Ev} (hE:EvOk P E) {o:Oper} {c:Call} (ho:o.op=.call c) {cx:Cx} {s:St} {l:Nat} {args:List V} (hc:(ZDu P c).run s.regs=some (.round l args))
 {ss:List (Ex×St)} (hs:ZEa hint known E o s (some (.round l args))=some ss):ZFp P o cx s ss:=by
 intro g a w K Q hS hcx hk hpn
 simp only[ZEa] at hs
 cases hro:ZEi E s.h l args with
 |none=> simp[hro] at hs
 |some outs=>
  simp only[hro] at hs
  obtain rfl:=Option.some.inj hs
  obtain⟨b,xs,hy,hrun,hxs⟩:=zPP (P:=P) (w:=w) ho hS.rr hc
  obtain⟨hl,hfm,rfl⟩:=hy
  refine⟨fun f _=> za6 g cx.round f,?_⟩
  rw[Oper.semAt_eq _ _ _ (fun c'=> by rw[ho];exact Op.noConfusion),hrun]
  unfold ZEi at hro
  split at hro
  ·rename_i fn regs params assign body pend dfr hgl
   split at hro
   ·rename_i hlen
    split at hro
    ·rename_i s1 hcode1
     split at hro
     ·rename_i fn' regs' params' assign' body' pend' dfr' hgl1
      split at hro
      ·rename_i bouts hcode2
       have hb:=hS.wr.blk l hl
       rw[hgl] at hb
       obtain⟨L,h1,h2,h3,h5,h6,h7,h8,h9,h10,h11⟩:=hb
       have hsz:xs.size=L.params.size:=by
        rw[←Array.length_toList,Zg hxs,hlen,←h5,Array.length_toList]
       rw[run_yield h1 hsz,Oper.uponIn_round]
       refine⟨fun hd=> (by rw[zyY] at hd;cases hd),?_⟩
       refine roundIn_of_wpIn (za6 g cx.round _) ?_
       rw[zQA,h6,h7]
       have hS1:SR g {regs:=ZFl params args regs,dfs:=[],h:=s.h} {tmps:=(L.params.zip xs).foldl (fun tmps (t,a)=> tmps.setIfInBounds t a) L.tmps,defers:=[]} w:=
        ⟨hS.wf,by rw[zZu,h5];exact zOG h8 hxs hlen,hS.wr,rfl⟩
       have hcx1:ZDC {fn:=fn,round:=some l} {regs:=ZFl params args regs,dfs:=[],h:=s.h}:=fun l' hl'=> by
        obtain rfl:=Option.some.inj hl';exact⟨hl,hfm⟩
       refine wpIn_mono (hE.code _ _ _ _ hcode1 g _ w hS1 hcx1) ?_
       rintro e a1 w1 ⟨r,hr,g1,hx,hS2,hE1⟩
       obtain rfl:=List.mem_singleton.1 hr
       obtain rfl:e=.normal:=hx
       show Exit.then _ _ Exit.normal a1 w1
       obtain⟨hl1,hfm1⟩:=hcx1.ext (s':=s1) hE1 l rfl
       have hb1:=hS2.wr.blk l hl1
       rw[hgl1] at hb1
       obtain⟨L1,i1,i2,i3,i5,i6,i7,i8,i9,i10,i11⟩:=hb1
       have hmu:g1.mu l=g.mu l:=(hE1.ids l hl hfm).2.1
       rw[hmu] at i1
       refine⟨_,run_beginRound i1 i2,?_⟩
       obtain⟨hW2,hX2⟩:=hS2.wr.set_loop hl1 hgl1 (by rw[hmu];exact i1) (st':=.busy) (pend':=pend') (L':={L1 with state:=.busy}) (by rw[←i3])
       rw[hmu] at hW2 hX2
       have hget:(s1.h.set l (.loop fn' regs' params' assign' body' pend' .busy dfr')).get=upd s1.h.get l (.loop fn' regs' params' assign' body' pend' .busy dfr'):=H.set_upd' hS2.wf hl1 _
       have hX2':ZCX g1 s1.h w1 g1 (s1.h.set l (.loop fn' regs' params' assign' body' pend' .busy dfr')) (w1.putObj (g.mu l) (.loop {L1 with state:=.busy})):=by
        show Ext g1 s1.h.get s1.h.n w1 g1 (s1.h.set l _).get s1.h.n _
        rw[hget];exact hX2
       have hS3:SR g1 {s1 with h:=s1.h.set l (.loop fn' regs' params' assign' body' pend' .busy dfr')} a1 (w1.putObj (g.mu l) (.loop {L1 with state:=.busy})):=by
        refine⟨H.wf_set hS2.wf _ _,hX2'.rr hS2.rr,?_,Ql hX2' hS2.df⟩
        show WR g1 (s1.h.set l _).get s1.h.n _
        rw[hget];exact hW2
       have hcx3:ZDC {fn:=fn,round:=some l} {s1 with h:=s1.h.set l (.loop fn' regs' params' assign' body' pend' .busy dfr')}:=
        (hcx1.ext (s':=s1) hE1).ext (s:=s1) (s':={s1 with h:=s1.h.set l (.loop fn' regs' params' assign' body' pend' .busy dfr')}) hX2'
       have hfe:ZC7 g1 (some l)=ZC7 g (some l):=by show Fence.wide.inRound (g1.mu l)=Fence.wide.inRound (g.mu l);rw[hmu]
       have hbody:=hE.code _ _ _ _ hcode2 g1 a1 _ hS3 hcx3
       rw[show ZC7 g1 ({fn:=fn,round:=some l}:Cx).round=ZC7 g (some l) from hfe] at hbody
       refine wpIn_mono hbody ?_
       rintro e a2 w2 ⟨r,hr,g2,hx,hS4,hE4⟩
       obtain⟨⟨v,h'⟩,hout,hend⟩:=zjq hro r hr
       obtain⟨hl2,hfm2⟩:=hcx3.ext (s':=r.2) hE4 l rfl
       have hb2:=hS4.wr.blk l hl2
       have hmu2:g2.mu l=g.mu l:=by rw[(hE4.ids l (hcx3 l rfl).1 (hcx3 l rfl).2).2.1,hmu]
       unfold ZFu at hend
       split at hend
       ·rename_i fn2 regs2 params2 assign2 body2 pend2 dfr2 hdf hgl2
        rw[hgl2] at hb2
        obtain⟨L2,j1,j2,j3,j5,j6,j7,j8,j9,j10,j11⟩:=hb2
        rw[hmu2] at j1
        have fin:∀(jump:Option Code) (st':LoopState),(if jump.isNone then LoopState.ready else .done)=st'→
         (v,h')=(.bool jump.isNone,r.2.h.set l (.loop fn2 regs2 params2 assign2 body2 jump st' dfr2))→
         ∃v' w',(Instr.endRound (g.mu l) jump).run P w2=.ok v' w'∧K (a.put o.dst v') w':=by
         intro jump st' hst hvh
         obtain⟨rfl,rfl⟩:=Prod.mk.inj hvh
         refine⟨_,_,run_endRound jump j1,?_⟩
         rw[hst]
         obtain⟨hW5,hX5⟩:=hS4.wr.set_loop hl2 hgl2 (by rw[hmu2];exact j1) (st':=st') (pend':=jump) (L':={L2 with state:=st',pending:=jump}) rfl
         rw[hmu2] at hW5 hX5
         have hget5:(r.2.h.set l (.loop fn2 regs2 params2 assign2 body2 jump st' dfr2)).get=upd r.2.h.get l (.loop fn2 regs2 params2 assign2 body2 jump st' dfr2):=H.set_upd' hS4.wf hl2 _
         have hX5':ZCX g2 r.2.h w2 g2 (r.2.h.set l (.loop fn2 regs2 params2 assign2 body2 jump st' dfr2)) (w2.putObj (g.mu l) (.loop {L2 with state:=st',pending:=jump})):=by
          show Ext g2 r.2.h.get r.2.h.n w2 g2 (r.2.h.set l _).get r.2.h.n _
          rw[hget5];exact hX5
         have hall:ZCX g s.h w g2 (r.2.h.set l (.loop fn2 regs2 params2 assign2 body2 jump st' dfr2)) (w2.putObj (g.mu l) (.loop {L2 with state:=st',pending:=jump})):=
          ((Ext.trans hE1 hX2').trans hE4).trans hX5'
         refine hk (s.res o (.bool jump.isNone,r.2.h.set l (.loop fn2 regs2 params2 assign2 body2 jump st' dfr2))) (List.mem_map.2 ⟨_,hout,rfl⟩) g2 _ _ ⟨H.wf_set hS4.wf _ _,zda (hall.rr hS.rr) o.dst (by simp[vr]),?_,?_⟩ hall
         ·show WR g2 (r.2.h.set l _).get r.2.h.n _
          rw[hget5];exact hW5
         ·show dfR g2 _ _ s.dfs _
          rw[zaa];exact Ql hall hS.df
        split at hend
        ·rename_i hr1
         rw[hr1] at hx
         obtain rfl:e=.normal:=hx
         exact fin none .ready rfl (Option.some.inj hend).symm
        ·rename_i hr1
         rw[hr1] at hx
         obtain rfl:e=.ret:=hx
         exact fin (some .ret) .done rfl (Option.some.inj hend).symm
        ·rename_i id hr1
         rw[hr1] at hx
         obtain rfl:e=.exit id:=hx
         exact fin (some (.exit id)) .done rfl (Option.some.inj hend).symm
        ·cases hend
       ·cases hend
      ·cases hro
     ·cases hro
    ·cases hro
   ·cases hro
  ·cases hro
theorem zOh:∀(l pre:List (V×V)) (i:Nat),(picks pre l)[i]?=(l[i]?).map fun x=> (x,pre.reverse++l.eraseIdx i)
 |[],pre,i=> by simp[picks]
 |x::post,pre,0=> by simp[picks]
 |x::post,pre,i+1=> by
  simp only[picks,List.getElem?_cons_succ,List.eraseIdx_cons_succ]
  rw[zOh post (x::pre) i]
  simp[List.append_assoc]
theorem zDJ {I:Imm} {A:At}:∀{l:List (V×V)} {es:List MapEntry} (i:Nat),ZCZ I A l es→ZCZ I A (l.eraseIdx i) (es.eraseIdx i)
 |[],es,i,h=> by simp only[ZCZ] at h;subst h;simp[ZCZ]
 |(k,v)::l,es,0,h=> by
  simp only[ZCZ] at h
  obtain⟨e,es',rfl,h1,h2,h3⟩:=h
  simpa using h3
 |(k,v)::l,es,i+1,h=> by
  simp only[ZCZ] at h
  obtain⟨e,es',rfl,h1,h2,h3⟩:=h
  simp only[List.eraseIdx_cons_succ,ZCZ]
  exact⟨e,_,rfl,h1,h2,zDJ i h3⟩
theorem zCH {α:Type}:∀{l:List α} {i:Nat} {x:α},l[i]?=some x→l.Perm (x::l.eraseIdx i)
 |[],i,x,h=> by simp at h
 |y::l,0,x,h=> by simp at h;subst h;exact .refl _
 |y::l,i+1,x,h=> by
  simp only[List.getElem?_cons_succ] at h
  simp only[List.eraseIdx_cons_succ]
  exact((zCH h).cons y).trans (.swap x y _)
theorem zYm {α:Type} {l l':List α} {i i':Nat} {x:α} (h:l.Perm l') (h1:l[i]?=some x) (h2:l'[i']?=some x):(l.eraseIdx i).Perm (l'.eraseIdx i'):=
 (List.perm_cons x).1 ((zCH h1).symm.trans (h.trans (zCH h2)))
theorem zDU:∀(L:List MapEntry) (i:Nat) (e:MapEntry),(L.map (·.born)).Nodup→L[i]?=some e→L.filter (fun x=> !(x.born==e.born))=L.eraseIdx i
 |[],i,e,_,h=> by simp at h
 |x::L,0,e,hn,h=> by
  simp only[List.getElem?_cons_zero,Option.some.injEq] at h
  subst h
  simp only[List.map_cons,List.nodup_cons,List.mem_map,not_exists,not_and] at hn
  rw[List.filter_cons_of_neg (by simp),List.eraseIdx_cons_zero]
  apply List.filter_eq_self.2
  intro y hy
  have:=hn.1 y hy
  simpa using this
 |x::L,i+1,e,hn,h=> by
  simp only[List.getElem?_cons_succ] at h
  simp only[List.map_cons,List.nodup_cons,List.mem_map,not_exists,not_and] at hn
  have hx:¬(x.born=e.born):=fun hh=> hn.1 e (List.mem_of_getElem? h) hh.symm
  rw[List.filter_cons_of_pos (by simpa using hx),List.eraseIdx_cons_succ,zDU L i e hn.2 h]
theorem zD0:∀(L:List MapEntry) (e:MapEntry),(L.map (·.born)).Nodup→e∈L→L.find? (fun x=> x.born==e.born)=some e
 |[],e,_,h=> by cases h
 |x::L,e,hn,h=> by
  simp only[List.map_cons,List.nodup_cons,List.mem_map,not_exists,not_and] at hn
  rcases List.mem_cons.1 h with rfl|hm
  ·rw[List.find?_cons_of_pos (by simp)]
  ·have hx:¬(x.born=e.born):=fun hh=> hn.1 e hm hh.symm
   rw[List.find?_cons_of_neg (by simpa using hx),zD0 L e hn.2 hm]
theorem zYK (q:Question) (w:World):∃d,(choose q).run P w=.ok (if q.forced then 0 else q.cut (w.tape w.drawn q)) {w with drawn:=d}:=by
 unfold choose
 simp only[Sem.run]
 split
 ·exact⟨w.drawn,rfl⟩
 ·exact⟨_,rfl⟩
theorem zYM (k:Nat) (hk:0 < k) (w:World):∃i d,i < k∧(choose (.mapNext k)).run P w=.ok i {w with drawn:=d}:=by
 obtain⟨d,hd⟩:=zYK (P:=P) (.mapNext k) w
 refine⟨_,d,?_,hd⟩
 split
 ·exact hk
 ·exact Nat.mod_lt _ hk
section
variable {g:G} {get:Nat→Blk} {n:Nat} {w:World}
theorem zXY (h:WR g get n w) {nid:Nat} {o:Oper} {a:Act} {y:Operand} (ho:o.op=.next y false) {x:V} (hx:vr g.I (g.at get n) x (a.eval y)) {es:List Eff} (he:ZFz get x=some es):
 ∃e∈es,∃z w',(execOp a.eval o).run P w=.ok (.value z) w'∧ZDH g get n w nid e z w':=by
 have hex:execOp a.eval o=(do pure (.value (←Instr.next (a.eval y) false o.type))):=by unfold execOp;rw[ho]
 have over:∀(v:V) (rs:List Nat),v=.tup [.bool false]→(Instr.next (a.eval y) false o.type).run P w=.ok (.tuple #[.bool false]) w→[{v:=v,rd:=rs}]=es→∃e∈es,∃z w',(execOp a.eval o).run P w=.ok (.value z) w'∧ZDH g get n w nid e z w':=by
  intro v rs hv hrun hes
  subst hes hv
  refine⟨_,List.mem_singleton.2 rfl,_,w,zaU hex hrun,g,h,Ext.refl _ _ _ _,?_⟩
  simp[vr,vrl]
 unfold ZFz at he
 split at he
 ·rename_i r
  simp only[vr] at hx
  obtain⟨ad,hxe,hr,hfm,rfl⟩:=hx
  have hb:=h.blk r hr
  split at he
  ·rename_i ver left cur hg
   rw[hg] at hb
   obtain⟨h1,h2⟩:=hb
   refine over _ _ rfl ?_ (Option.some.inj he)
   unfold Instr.next
   rw[hxe,h1]
   simp only[Sem.run_bind,Nat.add_zero,zbY h2 (by simp),Result.andThen,Sem.run_pure]
  ·rename_i m ver left cur hg
   rw[hg] at hb
   obtain⟨h1,h2,h3,since,seen,last,h4,h5,h6⟩:=hb
   split at he
   ·rename_i es' ver' hgm
    split at he
    ·rename_i hver
     subst hver
     obtain⟨ents,k1,k2,k3,k4⟩:=h6 es' hgm
     subst k2
     have hbm:=h.blk m h1
     rw[hgm] at hbm
     obtain⟨ents',clock,m1,m2,m3,m4⟩:=hbm
     rw[k1] at m1
     obtain⟨rfl,rfl⟩:ents=ents'∧last=clock:=by simpa using m1
     have hall:(!seen.isEmpty && !ents.isEmpty && ents.all (fun e=> decide (e.born ≥ last)))=false:=by
      cases hem:ents.isEmpty with
      |true=> simp
      |false=>
       have hne:ents.toList≠[]:=by
        intro hh
        rw[Array.toList_eq_nil_iff] at hh
        rw[hh] at hem;cases hem
       obtain⟨x,l,hxl⟩:=List.exists_cons_of_ne_nil hne
       have hx:x∈ents.toList:=by rw[hxl];exact List.mem_cons_self
       have hlt:=m4 x hx
       have:ents.all (fun e=> decide (e.born ≥ last))=false:=by
        rw[Bool.eq_false_iff]
        intro hh
        rw[Array.all_eq_true_iff_forall_mem] at hh
        have:=hh x (Array.mem_toList_iff.1 hx)
        simp at this
        omega
       rw[this];simp
     have hold:(ents.filter fun e=> !seen.contains e.born).filter (fun e=> decide (e.born < last))=ents.filter fun e=> !seen.contains e.born:=by
      apply Array.toList_inj.1
      rw[Array.toList_filter,Array.toList_filter]
      apply List.filter_eq_self.2
      intro x hx
      have:=m4 x (List.mem_filter.1 hx).1
      simpa using this
     have hnew:(ents.filter fun e=> !seen.contains e.born).filter (fun e=> decide (e.born ≥ last))=#[]:=by
      apply Array.toList_inj.1
      rw[Array.toList_filter,Array.toList_filter]
      apply List.filter_eq_nil_iff.2
      intro x hx
      have:=m4 x (List.mem_filter.1 hx).1
      simp;omega
     generalize hL:(ents.filter fun e=> !seen.contains e.born)=L at hold hnew
     have hLl:L.toList=ents.toList.filter (fun e=> !seen.contains e.born):=by rw[←hL,Array.toList_filter]
     rw[←hLl] at k3
     obtain⟨left',hperm,k3⟩:=k3
     have hlen:=(zkL k3).trans hperm.length_eq
     have hrun:(Instr.next (a.eval y) false o.type).run P w=
      Result.andThen ((choose (.mapNext (((if L.isEmpty then #[none] else #[])++(L++#[]).map some:Array (Option MapEntry))).size)).run P w) (fun i w1=>
       (match ((if L.isEmpty then #[none] else #[])++(L++#[]).map some:Array (Option MapEntry))[i]? with
       |some (some e)=> do
        setObj (g.mu r) (.mapIter (some (g.mu m)) last (seen.push e.born) last)
        pure (.tuple #[.bool true,e.key,e.val])
       |some none=> pure (.tuple #[.bool false])
       |none=> stuck "Next: no such candidate":Sem Value).run P w1):=by
      unfold Instr.next
      rw[hxe,h3]
      simp only[Sem.run_bind,Nat.add_zero,zbY h4 (by simp),Result.andThen,zbY k1 (by simp),hall,Bool.false_eq_true,if_false,Sem.run_pure,hL,hold,hnew]
      generalize (choose (.mapNext (((if L.isEmpty then #[none] else #[])++(L++#[]).map some:Array (Option MapEntry))).size)).run P w=R
      cases R with
      |halt _ _=> rfl
      |ok i w1=>
       simp only
       generalize ((if L.isEmpty then #[none] else #[])++(L++#[]).map some:Array (Option MapEntry))[i]?=c
       rcases c with _|_|c <;> rfl
     split at he
     ·
      have hLe:L=#[]:=Array.toList_eq_nil_iff.1 (List.length_eq_zero_iff.1 hlen)
      subst hLe
      refine over _ _ rfl ?_ (Option.some.inj he)
      rw[hrun]
      have hc:((if (#[]:Array MapEntry).isEmpty then #[none] else #[])++((#[]:Array MapEntry)++#[]).map some:Array (Option MapEntry))=#[none]:=by simp
      rw[hc]
      simp[choose,Sem.run,Question.forced,Result.andThen]
     ·rename_i hne
      obtain rfl:=Option.some.inj he
      have hLne:L.isEmpty=false:=by
       cases hem:L.isEmpty with
       |false=> rfl
       |true=>
        have:L.toList=[]:=by simpa using hem
        rw[this] at hlen
        exact absurd (List.length_eq_zero_iff.1 hlen.symm) (fun hh=> hne (by rw[hh]))
      rw[hLne] at hrun
      have hpos:0 < L.size:=by
       rcases Nat.eq_zero_or_pos L.size with hz|hz
       ·have:L=#[]:=Array.eq_empty_of_size_eq_zero hz
        rw[this] at hLne;cases hLne
       ·exact hz
      have hcand:((if false=true then #[none] else #[])++(L++#[]).map some:Array (Option MapEntry))=L.map some:=by simp
      rw[hcand] at hrun
      obtain⟨i,d,hi,hch⟩:=zYM (P:=P) (L.map some).size (by simpa using hpos) w
      rw[hch] at hrun
      have hi':i < L.size:=by simpa using hi
      have hiL:L.toList[i]?=some L[i]:=by simp[hi']
      simp only[Result.andThen,Array.getElem?_map,Array.getElem?_eq_getElem hi',Option.map_some] at hrun
      have h4':({w with drawn:=d}:World).heap[g.mu r]?=some (.mapIter (some (g.mu m)) last seen last):=h4
      rw[Sem.run_bind,zCX h4' (by simp)] at hrun
      simp only[Result.andThen,Sem.run_pure] at hrun
      have hil:i < left'.length:=by rw[←zkL k3,Array.length_toList];exact hi'
      obtain⟨kv,hkv⟩:∃kv,left'[i]?=some kv:=⟨left'[i],by simp[hil]⟩
      obtain⟨ka,va⟩:=kv
      obtain⟨i',hi''⟩:∃i',left[i']?=some (ka,va):=List.mem_iff_getElem?.1 (hperm.mem_iff.1 (List.mem_of_getElem? hkv))
      have hpe:(left'.eraseIdx i).Perm (left.eraseIdx i'):=zYm hperm hkv hi''
      obtain⟨en,hen,hk,hv⟩:=zwL k3 hkv
      rw[hiL] at hen
      obtain rfl:=Option.some.inj hen
      refine⟨{v:=.tup [.bool true,ka,va],rd:=[r,m],wr:=[(r,.iter (some m) ver (left.eraseIdx i') (some (ka,va)))]},?_,?_⟩
      ·refine List.mem_map.2 ⟨((ka,va),left.eraseIdx i'),?_,rfl⟩
       have:=zOh left [] i'
       rw[hi''] at this
       exact List.mem_of_getElem? this
      ·refine⟨_,_,zaU hex hrun,g,?_⟩
       have hmr:m≠r:=fun hh=> by subst hh;rw[hg] at hgm;cases hgm
       have hne:∀j m' ver left cur,j < n→j≠r→get j=.iter (some m') ver left cur→m'=r→∀es ver',Blk.iter (some m) ver (left) cur=.map es ver'→ver < ver':=by
        intro j m' ver left cur _ _ _ _ es ver' hh;cases hh
       obtain⟨hW,hE⟩:=(h.drew d).set_obj hr (by rw[hg];rfl) (by rw[hg];rfl) h4' (by simp) (ob':=.mapIter (some (g.mu m)) last (seen.push L[i].born) last) (by simp) (b:=.iter (some m) ver (left.eraseIdx i') (some (ka,va))) rfl
        (fun j m' ver left cur _ _ _ _ es ver' hh=> by cases hh) (fun e=> by
         refine⟨h1,by rw[J7 _ _ hmr];exact h2,h3,last,seen.push L[i].born,last,by simp[QG h4],fun es'' ver'' hq=> ?_,fun es'' hq=> ?_⟩
         ·rw[J7 _ _ hmr,hgm] at hq;cases hq;exact Nat.le_refl _
         ·have hnq:g.mu r≠g.mu m:=fun hh=> hmr (h.inj m r h1 hr (by rw[hgm];rfl) (by rw[hg];rfl) hh.symm)
          refine⟨ents,by simp only;rw[Array.getElem?_setIfInBounds_ne hnq];exact k1,rfl,?_,?_⟩
          ·have hfe:(ents.toList.filter fun x=> !(seen.push L[i].born).contains x.born)=L.toList.eraseIdx i:=by
            have hnd:(L.toList.map (·.born)).Nodup:=by
             rw[hLl]
             exact List.Nodup.sublist (List.Sublist.map _ List.filter_sublist) m3
            rw[←zDU L.toList i L[i] hnd hiL,hLl,List.filter_filter]
            apply List.filter_congr
            intro x _
            rw[Array.contains_push]
            cases seen.contains x.born <;> cases(x.born==L[i].born) <;> rfl
           rw[hfe]
           exact⟨_,hpe,zwM e.I_le e.at_le (zDJ i k3)⟩
          ·intro k v hc
           obtain⟨rfl,rfl⟩:=Prod.mk.inj (Option.some.inj hc)
           refine⟨L[i].born,L[i],by simp,?_,e.vr hk,e.vr hv⟩
           rw[←Array.find?_toList]
           exact zD0 _ _ m3 (by
            have:L[i]∈L.toList:=List.mem_of_getElem? hiL
            rw[hLl] at this
            exact(List.mem_filter.1 this).1))
        (fun es ver he=> by rw[hg] at he;cases he)
       refine⟨hW,(Ext.drew g get n w d).trans hE,?_⟩
       have hE':=(Ext.drew g get n w d).trans hE
       simp only[vr,vrl]
       exact⟨_,rfl,_,_,rfl,rfl,_,_,rfl,hE'.vr hk,_,_,rfl,hE'.vr hv,rfl⟩
    ·cases he
   ·cases he
  ·cases he
 ·cases he
end
theorem zYg {o:Oper} {y:Operand} (ho:o.op=.next y false) {cx:Cx} {s:St} {x:V} (hrd:rd s.regs y=some x) {es:List Eff} (hn:ZFz s.h.get x=some es):ZFp P o cx s (es.map fun e=> (.normal,s.eff o e)):=by
 intro g a w K Q hS hcx hk hpn
 obtain⟨e,he,z,w',hrun,hl⟩:=zXY (P:=P) (nid:=s.h.n) hS.wr ho (zQ hS.rr hrd) hn
 obtain⟨g',q1,q2⟩:=zNz (o:=o) hS hl
 refine⟨fun f _=> za6 g cx.round f,?_⟩
 rw[Oper.semAt_eq _ _ _ (fun c'=> by rw[ho];exact Op.noConfusion),hrun]
 exact hk _ (List.mem_map.2 ⟨e,he,rfl⟩) g' _ w' q1 q2
theorem zYe {o:Oper} {c:Call} (ho:o.op=.defer c) {cx:Cx} {s:St} (hr:cx.round=none) {d:D} (hd:ZHd s.regs c=some d):ZFp P o cx s [(.normal,{s with regs:=put s.regs o.dst ZmM,dfs:=d::s.dfs})]:=by
 intro g a w K Q hS hcx hk hpn
 refine⟨fun f _=> za6 g cx.round f,?_⟩
 rw[hr,show(ZC7 g none).round=none from rfl,Oper.semAt_none]
 unfold ZHd at hd
 split at hd
 ·rename_i f hcal
  split at hd
  ·rename_i gf first cap args hf ha
   obtain rfl:=Option.some.inj hd
   have hv:=zQ hS.rr hf
   simp only[vr] at hv
   obtain⟨f',a',c',e,h1,h2,h3⟩:=hv
   obtain rfl:f'=.func gf:=h1
   have hrun:(execOp a.eval o).run P w=.ok (.defer {target:=.fn (.func gf) c',args:=a'++c.args.map a.eval}) w:=by
    have hres:resolve a.eval c o.type=pure {target:=.fn (.func gf) c',args:=a'++c.args.map a.eval}:=by
     unfold resolve
     rw[hcal]
     simp only[e,Deferred.ofValue]
    unfold execOp
    rw[ho]
    simp only[hres]
    rfl
   rw[hrun,Oper.uponIn_defer]
   refine hk _ (List.mem_singleton.2 rfl) g _ w ⟨hS.wf,?_,hS.wr,?_⟩ (Ext.refl _ _ _ _)
   ·exact zda (a:={a with defers:=_::a.defers}) hS.rr o.dst zjm
   ·show dfR g s.h.get s.h.n (.call gf cap (first++args)::s.dfs) _
    rw[zaa]
    refine⟨_,_,rfl,⟨c',rfl,h3,?_⟩,hS.df⟩
    rw[Array.toList_append]
    exact QW h2 (zyd hS.rr ha)
  ·cases hd
 ·cases hd
theorem zYh {o:Oper} {y:Operand} (ho:o.op=.panic y) {cx:Cx} {s:St} {t:TypeId} {v:V} (hrd:rd s.regs y=some (.iface t v)):ZFp P o cx s [(.pan (.iface t v),s)]:=by
 intro g a w K Q hS hcx hk hpn
 refine⟨fun f _=> za6 g cx.round f,?_⟩
 have hv:=zQ hS.rr hrd
 have hv0:=hv
 simp only[vr] at hv
 obtain⟨x,hx,_⟩:=hv
 have hrun:(execOp a.eval o).run P w=.halt (.panic (.iface t x)) w:=by
  unfold execOp
  rw[ho]
  simp only[hx,Instr.panic]
  rfl
 rw[Oper.semAt_eq _ _ _ (fun c'=> by rw[ho];exact Op.noConfusion),hrun,Oper.uponIn_panic]
 rw[hx] at hv0
 exact hpn _ s (List.mem_singleton.2 rfl) g a w _ hS (Ext.refl _ _ _ _) hv0
theorem zX8 {hint:Hint} {known:Known} {E:Ev} (hE:EvOk P E) (hK:KnOk P known) {fn:FuncId} {o:Oper} {cx:Cx} {s:St} {ss:List (Ex×St)} (hs:(op1 P hint known fn o).run E cx s=some ss):ZFp P o cx s ss:=by
 unfold op1 at hs
 split at hs
 ·rename_i c ho
  split at hs
  ·simp only at hs
   split at hs
   ·rename_i e he
    obtain rfl:=Option.some.inj hs
    exact zOf (fun c'=> by rw[ho];exact Op.noConfusion) he
   ·cases hs
  ·simp only at hs
   cases hc:(ZDu P c).run s.regs with
   |none=> rw[hc] at hs;cases hs
   |some t=>
    rw[hc] at hs
    cases t with
    |func f args=> exact zYf hE hK ho hc hs
    |round l args=> exact zYi hE ho hc hs
 ·rename_i x ho
  simp only at hs
  split at hs
  ·rename_i y hy
   split at hs
   ·rename_i es hn
    obtain rfl:=Option.some.inj hs
    exact zYg ho hy hn
   ·cases hs
  ·cases hs
 ·rename_i x ho
  simp only at hs
  split at hs
  ·rename_i t v hv
   obtain rfl:=Option.some.inj hs
   exact zYh ho hv
  ·cases hs
 ·rename_i c ho
  simp only at hs
  split at hs
  ·rename_i d hr hd
   obtain rfl:=Option.some.inj hs
   exact zYe ho hr hd
  ·cases hs
 ·rename_i h1 h2 h4 h3
  simp only at hs
  split at hs
  ·rename_i e he
   obtain rfl:=Option.some.inj hs
   exact zOf (fun c' hh=> h3 c' hh) he
  ·cases hs
end
section
variable {P:Program}
theorem zZm {I:Imm} {A:At} {v:V} {b:Bool} (h:vr I A v (.bool b)):v=.bool b:=by
 cases v <;> simp only[vr] at h
 case bool c=> rw[Value.bool.inj h]
 all_goals first
  |(cases h;done)
  |(obtain⟨_,h⟩:=h;cases h;done)
  |(obtain⟨_,h,_⟩:=h;cases h;done)
  |(obtain⟨_,_,h,_⟩:=h;cases h;done)
  |(obtain⟨_,_,_,h,_⟩:=h;cases h;done)
theorem zO6 {I:Imm} {A:At} {regs:T V} {a:Act} (hR:RR I A regs a.tmps) (all:Array Oper) (o:Oper):Region.wanted o (yielded all a.tmps)=(ZCO all o).run regs:=by
 unfold Region.wanted ZCO
 cases o.guard with
 |none=> rfl
 |some gw=>
  obtain⟨j,want⟩:=gw
  simp only
  unfold yielded
  cases hd:(all[j]?).bind (·.dst) with
  |none=> simp
  |some d=>
   simp only[Option.bind_some]
   have hv:=hR.val d
   cases ht:a.tmps[d]? with
   |none=>
    rw[Array.getD_eq_getD_getElem?,ht] at hv
    simp only[Option.getD_none] at hv
    cases hg:regs.get ZmM d with
    |bool b=> rw[hg] at hv;simp[vr,undef] at hv
    |_=> rfl
   |some x=>
    rw[Array.getD_eq_getD_getElem?,ht] at hv
    simp only[Option.getD_some] at hv
    cases x with
    |bool b=>
     have:=zZm hv
     rw[this]
     simp only
     cases b <;> cases want <;> rfl
    |_=>
     cases hg:regs.get ZmM d with
     |bool b=> rw[hg] at hv;simp[vr] at hv
     |_=> rfl
theorem zwD {α β:Type} {f:α→Option (List β)}:∀{l:List α} {out:List β},ZCA f l=some out→∀x∈l,∃ys,f x=some ys∧∀y∈ys,y∈out
 |[],_,_,x,hx=> by cases hx
 |[a],out,h,x,hx=> by
  obtain rfl:=List.mem_singleton.1 hx
  exact⟨out,h,fun y hy=> hy⟩
 |a::b::l,out,h,x,hx=> by
  simp only[ZCA] at h
  cases h1:f a with
  |none=> simp[h1] at h
  |some ys=>
   cases h2:ZCA f (b::l) with
   |none=> simp[h1,h2] at h
   |some zs=>
    simp only[h1,h2,Option.some.injEq] at h
    subst h
    rcases List.mem_cons.1 hx with rfl|hm
    ·exact⟨ys,h1,fun y hy=> List.mem_append_left _ hy⟩
    ·obtain⟨ws,q1,q2⟩:=zwD h2 x hm
     exact⟨ws,q1,fun y hy=> List.mem_append_right _ (q2 y hy)⟩
theorem ZDC.same {cx:Cx} {s s':St} (h:ZDC cx s) (e:s'.h=s.h):ZDC cx s':=fun l hl=> by rw[e];exact h l hl
theorem zCE {hint:Hint} {known:Known} {E:Ev} (hE:EvOk P E) (hK:KnOk P known) {fn:FuncId} {all:Array Oper} {cx:Cx} {Q:Exit→Act→World→Prop} {F:Fence}:
 ∀(l:List Oper) (k:Nat) (s:St) (ss:List (Ex×St)),l=all.toList.drop k→(opsV P hint known fn all l).run E cx s=some ss→
  ∀(g:G) (a:Act) (w:World),SR g s a w→ZDC cx s→F=ZC7 g cx.round→
   (∀r∈ss,∀g' a' w' e,exR g' r.2.h r.1 e→SR g' r.2 a' w'→ZCX g s.h w g' r.2.h w'→Q e a' w')→wpOpsIn F 0 P all Q (List.range' k l.length) a w
 |[],k,s,ss,_,hs,g,a,w,hS,_,_,hk=> by
  have hs:some [(Ex.normal,s)]=some ss:=hs
  obtain rfl:=Option.some.inj hs
  exact hk (.normal,s) (List.mem_singleton.2 rfl) g a w .normal rfl hS (Ext.refl _ _ _ _)
 |o::l,k,s,ss,hl,hs,g,a,w,hS,hcx,hF,hk=> by
  have hko:all[k]?=some o:=by
   rw[←Array.getElem?_toList]
   have:(all.toList.drop k)[0]?=some o:=by rw[←hl];rfl
   rw[List.getElem?_drop] at this;exact this
  have hl':l=all.toList.drop (k+1):=by
   have:(all.toList.drop k).tail=l:=by rw[←hl];rfl
   rw[←this,List.tail_drop]
  simp only[List.length_cons,List.range'_succ,wpOpsIn,hko]
  rw[zO6 hS.rr all o]
  have hs:(if (ZCO all o).run s.regs then
   match (op1 P hint known fn o).run E cx s with
   |some [(.normal,s)]=> (opsV P hint known fn all l).run E cx s
   |some rs=> ZCA (fun r=> match r.1 with
    |.normal=> (opsV P hint known fn all l).run E cx r.2
    |_=> some [r]) rs
   |none=> none
  else (opsV P hint known fn all l).run E cx {s with regs:=put s.regs o.dst ZmM})=some ss:=hs
  split at hs
  ·rename_i hw
   rw[if_pos hw]
   cases hop:(op1 P hint known fn o).run E cx s with
   |none=> simp[hop] at hs
   |some ss1=>
    have hb:∀r1∈ss1,(r1.1=.normal∧∃ys,(opsV P hint known fn all l).run E cx r1.2=some ys∧∀y∈ys,y∈ss)∨(r1.1≠.normal∧r1∈ss):=by
     rw[hop] at hs
     have many:∀ss1,ZCA (fun r:Ex×St=> match r.1 with|.normal=> (opsV P hint known fn all l).run E cx r.2|_=> some [r]) ss1=some ss→
      ∀r1∈ss1,(r1.1=.normal∧∃ys,(opsV P hint known fn all l).run E cx r1.2=some ys∧∀y∈ys,y∈ss)∨(r1.1≠.normal∧r1∈ss):=by
      intro ss1 hb r1 h1
      obtain⟨ys,q1,q2⟩:=zwD hb r1 h1
      obtain⟨x,s1⟩:=r1
      cases x with
      |normal=> exact .inl ⟨rfl,ys,q1,q2⟩
      |_=> exact .inr ⟨by simp,q2 _ (by obtain rfl:=Option.some.inj q1;exact List.mem_singleton.2 rfl)⟩
     split at hs
     ·rename_i s1 heq
      obtain rfl:=Option.some.inj heq
      intro r1 h1
      obtain rfl:=List.mem_singleton.1 h1
      exact .inl ⟨rfl,ss,hs,fun y hy=> hy⟩
     ·rename_i rs _ heq
      obtain rfl:=Option.some.inj heq
      exact many _ hs
     ·rename_i heq;cases heq
    rw[hF]
    refine zX8 hE hK hop g a w _ _ hS hcx ?_ ?_
    ·intro s1 h1 g1 a1 w1 hS1 hE1
     rcases hb _ h1 with ⟨_,ys,hy1,hy2⟩|⟨hne,_⟩
     ·refine zCE hE hK l (k+1) s1 ys hl' hy1 g1 a1 w1 hS1 (hcx.ext hE1) (zyZ hcx hE1).symm ?_
      intro r hr g' a' w' e hx hS' hE'
      exact hk r (hy2 r hr) g' a' w' e hx hS' (Ext.trans hE1 hE')
     ·exact absurd rfl hne
    ·intro v s1 h1 g1 a1 w1 x hS1 hE1 hv
     rcases hb _ h1 with ⟨hne,_⟩|⟨_,hm⟩
     ·cases hne
     ·exact hk _ hm g1 a1 w1 _ ⟨x,rfl,hv⟩ hS1 hE1
  ·rename_i hw
   rw[if_neg hw]
   refine⟨fun f _=> by rw[hF];exact za6 g cx.round f,?_⟩
   refine zCE hE hK l (k+1) _ ss hl' hs g _ w ⟨hS.wf,zda hS.rr o.dst zjm,hS.wr,by rw[zaa];exact hS.df⟩ (hcx.same rfl) hF ?_
   exact hk
end
section
variable {P:Program}
section
variable {g:G} {h:H} {w:World}
theorem zQF (hwf:h.wf) (hW:WR g h.get h.n w) {p:V} {x:Value} (hp:vr g.I (g.at h.get h.n) p x) {h':H} (he:ZGg h p=some h'):
 ∃g',h'.wf∧WR g' h'.get h'.n w∧Ext g h.get h.n w g' h'.get h'.n w:=by
 unfold ZGg at he
 split at he
 ·rename_i r off
  simp only[vr] at hp
  obtain⟨ad,rfl,hr,hrf,rfl⟩:=hp
  split at he
  ·rename_i k cs hg
   split at he
   ·rename_i r' off' len cap sz hcs
    split at he
    ·cases he
    ·rename_i hne
     split at he
     ·rename_i k' ds hg'
      split at he
      ·rename_i hcond
       obtain⟨hlen,hk',hpure⟩:=hcond
       obtain rfl:=Option.some.inj he
       have hb:=hW.blk r hr
       rw[hg] at hb
       obtain⟨c,el,a1,a2,a3,a4,a5⟩:=hb
       obtain⟨xv,hxv,hxr⟩:=a4 off _ hcs
       simp only[vr] at hxr
       obtain⟨ad,cap',rfl,hr',hrf',rfl,hlc,hcc,_,hts⟩:=hxr
       have hb':=hW.blk r' hr'
       rw[hg'] at hb'
       obtain⟨c',el',b1,b2,b3,b4,b5⟩:=hb'
       have hmune:g.mu r≠g.mu r':=fun hh=> hne (hW.inj r r' hr hr' (by rw[hg];rfl) (by rw[hg'];rfl) hh).symm
       obtain⟨xs,hxs1,hxs2⟩:∃xs:List Value,vrl g.I (g.at h.get h.n) ds xs∧∀(i:Nat) (y:Value),xs[i]?=some y→c'[g.base r'+i]?=some y:=by
        refine⟨(c'.toList.drop (g.base r')).take ds.length,zky ?_ ?_,?_⟩
        ·have hcl:c'.toList.length=c'.size:=Array.length_toList
         rw[List.length_take,List.length_drop];omega
        ·intro i v hv
         obtain⟨y,q1,q2⟩:=b4 i v hv
         have hi:=(List.getElem?_eq_some_iff.1 hv).1
         refine⟨y,?_,q2⟩
         rw[List.getElem?_take_of_lt hi,List.getElem?_drop,Array.getElem?_toList];exact q1
        ·intro i y hy
         rw[List.getElem?_take] at hy
         split at hy
         ·rw[List.getElem?_drop,Array.getElem?_toList] at hy;exact hy
         ·cases hy
       have hys:=zb0 hxs1 off'
       have hys':=za3 hpure (zaW hys)
       have hylen:(xs.drop off').length=len * sz:=by
        rw[List.length_drop,Zg hxs1];omega
       generalize hyd:xs.drop off'=ys at hys hys' hylen
       have hycell:∀(i:Nat) (y:Value),ys[i]?=some y→c'[g.base r'+off'+i]?=some y:=fun i y hy=> by
        rw[←hyd,List.getElem?_drop] at hy
        have:=hxs2 _ _ hy
        rwa [Nat.add_assoc]
       let g':G:=({g with I:=ZC0 g.I (g.mu r') (g.base r'+off') ys}:G).put h.n (g.mu r') (g.base r'+off'+len * sz) (g.ts r')
       have hwf1:=H.wf_set hwf r (.row k (cs.set off (.vs (V.seals (ds.drop off')) len sz (.tok h.n len))))
       have hwf2:=H.wf_set hwf1 r' .gone
       have hwf3:=H.wf_new hwf2 (.tok len)
       have hn:(((h.set r (.row k (cs.set off (.vs (V.seals (ds.drop off')) len sz (.tok h.n len))))).set r' .gone).new (.tok len)).n=h.n+1:=rfl
       have hget:∀j,(((h.set r (.row k (cs.set off (.vs (V.seals (ds.drop off')) len sz (.tok h.n len))))).set r' .gone).new (.tok len)).get j=if j=h.n then .tok len else if j=r' then .gone else if j=r then .row k (cs.set off (.vs (V.seals (ds.drop off')) len sz (.tok h.n len))) else h.get j:=by
        intro j
        rw[H.get_new hwf2]
        show(if j=h.n then _ else _)=_
        split
        ·rfl
        ·rw[H.get_set hwf1]
         show(if j=r'∧r' < h.n then _ else _)=_
         by_cases hj:j=r'
         ·rw[if_pos ⟨hj,hr'⟩,if_pos hj]
         ·rw[if_neg (fun hh=> hj hh.1),if_neg hj,H.get_set hwf]
          by_cases hj2:j=r
          ·rw[if_pos ⟨hj2,hr⟩,if_pos hj2]
          ·rw[if_neg (fun hh=> hj2 hh.1),if_neg hj2]
       generalize hh':((h.set r (.row k (cs.set off (.vs (V.seals (ds.drop off')) len sz (.tok h.n len))))).set r' .gone).new (.tok len)=h' at hwf3 hn hget
       have gr:h'.get r=.row k (cs.set off (.vs (V.seals (ds.drop off')) len sz (.tok h.n len))):=by
        rw[hget,if_neg (by omega),if_neg (Ne.symm hne),if_pos rfl]
       have gr':h'.get r'=.gone:=by rw[hget,if_neg (by omega),if_pos rfl]
       have gn:h'.get h.n=.tok len:=by rw[hget,if_pos rfl]
       have hmu:∀j,j≠h.n→g'.mu j=g.mu j:=fun j hj=> if_neg hj
       have hbase:∀j,j≠h.n→g'.base j=g.base j:=fun j hj=> if_neg hj
       have hts':∀j,j≠h.n→g'.ts j=g.ts j:=fun j hj=> if_neg hj
       have nmu:g'.mu h.n=g.mu r':=if_pos rfl
       have nbase:g'.base h.n=g.base r'+off'+len * sz:=if_pos rfl
       have nts:g'.ts h.n=g.ts r':=if_pos rfl
       have hIle:g.I.le g'.I:=zkS fun o y hy h1 h2=> by
        have:=hW.imm _ _ _ hy
        unfold World.cell? at this
        rw[b1] at this
        have hlt:o - (g.base r'+off') < ys.length:=by omega
        have hc:=hycell _ _ (List.getElem?_eq_getElem hlt)
        rw[show g.base r'+off'+(o - (g.base r'+off'))=o by omega] at hc
        rw[List.getElem?_eq_getElem hlt,←hc]
        simpa using this
       have hcell:∀o y,g'.I (g.mu r') o=some y→w.cell? ⟨g.mu r',o,none⟩=some y:=fun o y hy=> by
        rcases zaZ hy with hy|⟨_,i,rfl,hi⟩
        ·exact hW.imm _ _ _ hy
        ·have:=hycell i y hi
         unfold World.cell?
         rw[b1]
         simpa using this
       refine⟨g',hwf3,?_⟩
       rw[hn]
       refine WR.go (fun j=> j=r∨j=r'∨j=h.n) (fun b=> b=g.mu r') hW (by omega) ?_ ?_ (Nat.le_refl _) (fun _ _ _=> rfl) ?_ hIle ?_ ?_ ?_ ?_ ?_ ?_ ?_ ?_ rfl rfl rfl ?_ ?_
       ·intro j hj hc
        have h1:j≠h.n:=by omega
        refine⟨?_,hmu j h1,hbase j h1,hts' j h1⟩
        rw[hget,if_neg h1,if_neg (fun hh=> hc (.inr (.inl hh))),if_neg (fun hh=> hc (.inl hh))]
       ·intro j h1 h2;exact .inr (.inr (by omega))
       ·intro b _ hd;exact⟨r',hr',.inr (.inl rfl),by rw[hg'];rfl,hd.symm⟩
       ·intro b o y hy
        rcases zaZ hy with hy|⟨rfl,_⟩
        ·exact .inl hy
        ·exact .inr (.inr rfl)
       ·intro b o y hy hd
        rcases hd with hd|rfl
        ·rcases zaZ hy with hy|⟨rfl,_⟩
         ·exact hW.imm _ _ _ hy
         ·exact absurd (QG b1) (by omega)
        ·exact hcell o y hy
       ·intro j hj hc hfm
        have h1:j≠h.n:=by omega
        refine⟨?_,hmu j h1,hbase j h1,hts' j h1⟩
        rcases hc with rfl|rfl|rfl
        ·rw[gr];rfl
        ·rw[gr'];rfl
        ·exact absurd rfl h1
       ·intro j hj hc hk
        rcases hc with rfl|rfl|rfl
        ·rw[gr];simp
        ·rw[gr'];simp
        ·omega
       ·intro j hj hc hw1 hw2 e1 e2
        rcases hc with rfl|rfl|rfl
        ·rw[hg] at e1;cases e1
        ·rw[hg'] at e1;cases e1
        ·omega
       ·intro j hj hc hl
        rcases hc with rfl|rfl|rfl
        ·exact .inr ⟨j,hr,.inl rfl,by rw[hg];rfl,(hmu j (by omega)).symm⟩
        ·rw[gr'] at hl;cases hl
        ·exact .inr ⟨r',hr',.inr (.inl rfl),by rw[hg'];rfl,nmu.symm⟩
       ·intro j j' hj hj' hc hc' hl hl' hm
        rcases hc with rfl|rfl|rfl
        ·rcases hc' with rfl|rfl|rfl
         ·rfl
         ·rw[gr'] at hl';cases hl'
         ·rw[hmu _ (by omega),nmu] at hm;exact absurd hm hmune
        ·rw[gr'] at hl;cases hl
        ·rcases hc' with rfl|rfl|rfl
         ·rw[hmu j' (by omega),nmu] at hm;exact absurd hm.symm hmune
         ·rw[gr'] at hl';cases hl'
         ·rfl
       ·intro j m ver left cur hj hc hgj hcm es ver' hem
        rcases hcm with rfl|rfl|rfl
        ·rw[gr] at hem;cases hem
        ·rw[gr'] at hem;cases hem
        ·rw[gn] at hem;cases hem
       ·intro e j hj hc
        rcases hc with rfl|rfl|rfl
        ·rw[gr]
         refine⟨c,el,by rw[hmu j (by omega)];exact a1,by rw[hts' j (by omega)];exact a2,by rw[hbase j (by omega),List.length_set];exact a3,?_,?_⟩
         ·intro i v hv
          rw[hbase j (by omega)]
          rw[List.getElem?_set] at hv
          split at hv
          ·rename_i hi
           subst hi
           split at hv
           ·obtain rfl:=Option.some.inj hv
            refine⟨_,hxv,?_⟩
            simp only[vr]
            refine⟨g.mu r',g.base r'+off',cap',rfl,by omega,?_,?_,?_⟩
            ·rw[←Zg hys'];exact hylen
            ·exact zkx (QJ hIle (At.le_refl _) hys') fun i y hy=> zkR hy
            ·refine .inr ⟨by omega,by rw[gn];simp,fun hw hq=> ?_⟩
             rw[gn] at hq
             obtain rfl:=Blk.tok.inj hq
             exact⟨Nat.le_refl _,fun _=> ⟨nmu.symm,nbase.symm,by rw[nts];exact hts⟩⟩
           ·cases hv
          ·obtain⟨y,q1,q2⟩:=a4 i v hv
           exact⟨y,q1,by rw[←hn] at e⊢;exact e.vr q2⟩
         ·intro o ho
          rw[hbase j (by omega)] at ho
          rw[hmu j (by omega)]
          have:=a5 o ho
          show ZC0 _ _ _ _ _ _=none
          unfold ZC0
          rw[if_neg (fun hh=> hmune hh.1)];exact this
        ·rw[gr'];trivial
        ·rw[gn]
         refine⟨c',el',by rw[nmu];exact b1,by rw[nts];exact b2,by rw[nbase];omega,fun o ho=> ?_⟩
         rw[nbase] at ho
         rw[nmu]
         show ZC0 _ _ _ _ _ _=none
         unfold ZC0
         rw[if_neg (by rw[hylen];omega)]
         exact b5 o (by omega)
       ·intro j hj hc es ver e1
        rcases hc with rfl|rfl|rfl
        ·rw[hg] at e1;cases e1
        ·rw[hg'] at e1;cases e1
        ·omega
      ·cases he
     ·cases he
   ·cases he
  ·cases he
 ·cases he
end
theorem zD1 {I0:Unit}:∀(ts:List Tmp) {g:G} {s:St} {a:Act} {w:World} {h':H},SR g s a w→ZFQ s.regs ts s.h=some h'→∃g',SR g' {s with h:=h'} a w∧ZCX g s.h w g' h' w
 |[],g,s,a,w,h',hS,he=> by
  obtain rfl:=Option.some.inj he
  exact⟨g,hS,Ext.refl _ _ _ _⟩
 |t::ts,g,s,a,w,h',hS,he=> by
  simp only[ZFQ] at he
  split at he
  ·rename_i h1 h1e
   obtain⟨g1,q1,q2,q3⟩:=zQF hS.wf hS.wr (hS.rr.val t) h1e
   have hS1:SR g1 {s with h:=h1} a w:=⟨q1,q3.rr hS.rr,q2,Ql q3 hS.df⟩
   obtain⟨g2,r1,r2⟩:=zD1 (I0:=I0) ts hS1 he
   exact⟨g2,r1,Ext.trans q3 r2⟩
  ·cases he
theorem zD2 {hint:Hint} {cx:Cx} {id:Nat} {g:G} {s:St} {a:Act} {w:World} (hS:SR g s a w) {r:Ex×St} (he:ZDK hint cx id s=some r):r.1=.normal∧∃g',SR g' r.2 a w∧ZCX g s.h w g' r.2.h w:=by
 unfold ZDK at he
 split at he
 ·obtain rfl:=Option.some.inj he
  exact⟨rfl,g,hS,Ext.refl _ _ _ _⟩
 ·split at he
  ·rename_i h1 h1e
   obtain rfl:=Option.some.inj he
   exact⟨rfl,zD1 (I0:=()) _ hS h1e⟩
  ·cases he
theorem zQd {hint:Hint} {known:Known} {E:Ev} (hE:EvOk P E) (hK:KnOk P known) {fn:FuncId} {id:Nat} {ops:Array Oper} {cx:Cx} {s:St} {ss:List (Ex×St)} (hs:(opsV P hint known fn ops ops.toList).run E cx s=some ss) {outs:List (Ex×St)}
 (ho:ZCT (fun r:Ex×St=> match r.1 with|.normal=> ZDK hint cx id r.2|_=> some r) ss=some outs):ZEm P cx (.region id ops false) s outs:=by
 intro g a w hS hcx
 refine wpIn_region ?_
 rw[List.range_eq_range',←Array.length_toList]
 refine zCE hE hK ops.toList 0 s ss rfl hs g a w hS hcx rfl ?_
 intro r0 hr0 g' a' w' e hx hS' hE'
 obtain⟨r,hr,hf⟩:=zjq ho r0 hr0
 obtain⟨x,s'⟩:=r0
 cases x with
 |normal=>
  obtain rfl:e=.normal:=hx
  obtain⟨h1,g2,h2,h3⟩:=zD2 hS' hf
  exact⟨r,hr,g2,by rw[h1];rfl,h2,Ext.trans hE' h3⟩
 |_=>
  obtain rfl:=Option.some.inj hf
  exact⟨_,hr,g',hx,hS',hE'⟩
end
section
variable {P:Program}
theorem zyX {p:Nat→Prop} (h:∃m,p m):∃m,p m∧∀k,p k→m≤k:=by
 obtain⟨m,hm⟩:=h
 induction m using Nat.strongRecOn with
 |_ m ih=>
  by_cases hk:∃k,k < m∧p k
  ·obtain⟨k,h1,h2⟩:=hk
   exact ih k h1 h2
  ·refine⟨m,hm,fun k hk'=> ?_⟩
   rcases Nat.lt_or_ge k m with h|h
   ·exact absurd ⟨k,h,hk'⟩ hk
   ·exact h
open Classical in
def least (p:Nat→Prop):Nat:=if h:∃m,p m then (zyX h).choose else 0
theorem zNA {p:Nat→Prop} (h:∃m,p m):p (least p)∧∀k,p k→least p≤k:=by
 unfold least
 rw[dif_pos h]
 exact(zyX h).choose_spec
theorem zZp {F:Fence} {n:Nat} {Q:Exit→Act→World→Prop} {c:Code} (I:Nat→Act→World→Prop) {m:Nat} {a:Act} {w:World} (h0:I m a w)
 (round:∀m a w,I m a w→c.wpIn F n P (Exit.then (fun a' w'=> ∃m',m' < m∧I m' a' w') Q) a w):(Code.loop c).wpIn F n P Q a w:=by
 refine wpIn_loop (fun a w=> ∃m,I m a w) (fun a w=> least fun m=> I m a w) ⟨m,h0⟩ ?_
 intro a w hI
 obtain⟨h1,_⟩:=zNA hI
 refine wpIn_mono (round _ a w h1) ?_
 intro e a' w' hq
 cases e with
 |normal=>
  obtain⟨m',hlt,hI'⟩:=hq
  exact⟨⟨m',hI'⟩,Nat.lt_of_le_of_lt ((zNA ⟨m',hI'⟩).2 m' hI') hlt⟩
 |_=> exact hq
section
variable {b:Frame} {a:Act} {k:List Item} {cs:List Frame} {w:World}
theorem zko {c:Code}:step P (lone (b.atR a (.code (.scope c)::k)) cs w)=.next (lone (b.atR a (.code c::.inScope c::k)) cs w):=
 step_lone_go (by simp[stepG,stepG.exec,Frame.atR])
theorem zY0 {c:Code}:step P (lone (b.atR a (.inScope c::k)) cs w)=.next (lone (b.atR a k) cs w):=
 step_lone_go (by simp[stepG,stepG.exec,Frame.atR])
end
theorem zZq {F:Fence} {n:Nat} {Q:Exit→Act→World→Prop} {c:Code} {a:Act} {w:World} (h:c.wpIn F n P (Exit.noGoto Q) a w):(Code.scope c).wpIn F n P Q a w:=by
 intro b k cs hro hb hr
 have h0:(lone (b.atR a (.code (.scope c)::k)) cs w).fenced P F:=fenced_calm hb hr rfl
 obtain⟨e,a₁,w₁,hq,harr⟩:=h b (.inScope c::k) cs hro hb hr
 cases e with
 |normal=> exact⟨.normal,a₁,w₁,hq,.head h0 zko (StepsIn.trans harr (.one (fenced_calm hb hr rfl) zY0))⟩
 |exit id=>
  have hx:exitTo id (.inScope c::k)=exitTo id k:=by simp[exitTo]
  exact⟨.exit id,a₁,w₁,hq,fun k' hk=> .head h0 zko (harr.1 k' (by rw[hx];exact hk)),
   fun hr' hk=> let ⟨k₁,h1,h2⟩:=harr.2 hr' (by rw[hx];exact hk);⟨k₁,h1,.head h0 zko h2⟩⟩
 |goto l=> exact hq.elim
 |ret=> exact⟨_,a₁,w₁,hq,.of_steps (.one h0 zko) harr⟩
 |panic ch=> exact⟨_,a₁,w₁,hq,.of_steps (.one h0 zko) harr⟩
 |outgrown=> exact⟨_,a₁,w₁,hq,.of_steps (.one h0 zko) harr⟩
theorem zOD {E:Ev} {cx:Cx} {b:Code} {outs1:List (Ex×St)} {outs:List (Ex×St)} (h:ZD5 E cx b (some outs1)=some outs):
 ∀r∈outs1,(r.1=.normal∧∃ys,E.code cx b r.2=some ys∧∀y∈ys,y∈outs)∨(r.1≠.normal∧r∈outs):=by
 unfold ZD5 at h
 have main:∀outs1 outs,ZCA (fun r:Ex×St=> match r.1 with|.normal=> E.code cx b r.2|_=> some [r]) outs1=some outs→
  ∀r∈outs1,(r.1=.normal∧∃ys,E.code cx b r.2=some ys∧∀y∈ys,y∈outs)∨(r.1≠.normal∧r∈outs):=by
  intro outs1 outs h r hr
  obtain⟨ys,h1,h2⟩:=zwD h r hr
  obtain⟨e,s⟩:=r
  cases e with
  |normal=> exact .inl ⟨rfl,ys,h1,h2⟩
  |_=> exact .inr ⟨by simp,h2 _ (by obtain rfl:=Option.some.inj h1;exact List.mem_singleton.2 rfl)⟩
 split at h
 ·rename_i s heq
  obtain rfl:=Option.some.inj heq
  intro r hr
  obtain rfl:=List.mem_singleton.1 hr
  exact .inl ⟨rfl,outs,h,fun y hy=> hy⟩
 ·rename_i outs1' hne heq
  obtain rfl:=Option.some.inj heq
  exact main _ _ h
 ·rename_i heq;cases heq
theorem ZEm.on {cx:Cx} {c:Code} {s s1:St} {outs ys:List (Ex×St)} (h:ZEm P cx c s1 ys) (hy:∀y∈ys,y∈outs) {g g1:G} {a1:Act} {w w1:World} (hcx:ZDC cx s) (hS1:SR g1 s1 a1 w1) (hE1:ZCX g s.h w g1 s1.h w1):
 c.wpIn (ZC7 g cx.round) 0 P (fun e a' w'=> ∃r∈outs,∃g',exR g' r.2.h r.1 e∧SR g' r.2 a' w'∧ZCX g s.h w g' r.2.h w') a1 w1:=by
 have:=h g1 a1 w1 hS1 (hcx.ext hE1)
 rw[zyZ hcx hE1] at this
 refine wpIn_mono this ?_
 rintro e a' w' ⟨r,hr,g',he,q1,q2⟩
 exact⟨r,hy r hr,g',he,q1,Ext.trans hE1 q2⟩
theorem zQf {E:Ev} (hE:EvOk P E) {cx:Cx} {x y:Code} {s:St} {outs:List (Ex×St)} (h:ZD5 E cx y (E.code cx x s)=some outs):ZEm P cx (.seq x y) s outs:=by
 intro g a w hS hcx
 cases h1:E.code cx x s with
 |none=> rw[h1] at h;cases h
 |some outs1=>
  rw[h1] at h
  have hm:=zOD h
  refine wpIn_seq (wpIn_mono (hE.code _ _ _ _ h1 g a w hS hcx) ?_)
  rintro e a' w' ⟨r,hr,g',hx,q1,q2⟩
  rcases hm r hr with ⟨hn,ys,hy1,hy2⟩|⟨hn,hmem⟩
  ·rw[hn] at hx
   obtain rfl:e=.normal:=hx
   exact(hE.code _ _ _ _ hy1).on hy2 hcx q1 q2
  ·obtain⟨x,s'⟩:=r
   cases x with
   |normal=> exact absurd rfl hn
   |exit id=> obtain rfl:e=.exit id:=hx;exact⟨_,hmem,g',rfl,q1,q2⟩
   |ret=> obtain rfl:e=.ret:=hx;exact⟨_,hmem,g',rfl,q1,q2⟩
   |pan v=>
    have hx0:=hx
    obtain⟨z,rfl,_⟩:=hx0
    exact⟨_,hmem,g',hx,q1,q2⟩
theorem zDE {E:Ev} (hE:EvOk P E) {cx:Cx} {c:Operand} {x y:Code} {t:Bool} {s:St} (hr:rd s.regs c=some (.bool t)) {outs:List (Ex×St)} (h:E.code cx (if t then x else y) s=some outs):ZEm P cx (.cond c x y) s outs:=by
 intro g a w hS hcx
 have hv:=zQ hS.rr hr
 simp only[vr] at hv
 exact wpIn_cond hv (hE.code _ _ _ _ h g a w hS hcx)
theorem zP9 {E:Ev} (hE:EvOk P E) {cx:Cx} {id:Nat} {c:Code} {s:St} {outs:List (Ex×St)} (h:E.code cx c s=some outs):
 ZEm P cx (.block id c) s (outs.map fun r=> match r.1 with|.exit i=> (if i=id then Ex.normal else Ex.exit i,r.2)|_=> r):=by
 intro g a w hS hcx
 refine wpIn_block (wpIn_mono (hE.code _ _ _ _ h g a w hS hcx) ?_)
 rintro e a' w' ⟨r,hr,g',hx,q1,q2⟩
 obtain⟨x,s'⟩:=r
 have hm:=List.mem_map_of_mem (f:=fun r:Ex×St=> match r.1 with|.exit i=> (if i=id then Ex.normal else Ex.exit i,r.2)|_=> r) hr
 cases x with
 |normal=> obtain rfl:e=.normal:=hx;exact⟨_,hm,g',rfl,q1,q2⟩
 |ret=> obtain rfl:e=.ret:=hx;exact⟨_,hm,g',rfl,q1,q2⟩
 |pan v=>
  have hx0:=hx
  obtain⟨z,rfl,_⟩:=hx0
  exact⟨_,hm,g',hx,q1,q2⟩
 |exit i=>
  obtain rfl:e=.exit i:=hx
  show Exit.inBlock id _ (.exit i) a' w'
  simp only[Exit.inBlock]
  simp only at hm
  split
  ·rename_i hi
   rw[if_pos hi] at hm
   exact⟨_,hm,g',rfl,q1,q2⟩
  ·rename_i hi
   rw[if_neg hi] at hm
   exact⟨_,hm,g',rfl,q1,q2⟩
theorem zQe {E:Ev} (hE:EvOk P E) {cx:Cx} {c:Code} {s:St} {outs:List (Ex×St)} (h:E.code cx c s=some outs):ZEm P cx (.scope c) s outs:=by
 intro g a w hS hcx
 refine zZq (wpIn_mono (hE.code _ _ _ _ h g a w hS hcx) ?_)
 rintro e a' w' ⟨r,hr,g',hx,q1,q2⟩
 obtain⟨x,s'⟩:=r
 cases x with
 |normal=> obtain rfl:e=.normal:=hx;exact⟨_,hr,g',rfl,q1,q2⟩
 |ret=> obtain rfl:e=.ret:=hx;exact⟨_,hr,g',rfl,q1,q2⟩
 |exit i=> obtain rfl:e=.exit i:=hx;exact⟨_,hr,g',rfl,q1,q2⟩
 |pan v=>
  have hx0:=hx
  obtain⟨z,rfl,_⟩:=hx0
  exact⟨_,hr,g',hx,q1,q2⟩
theorem zQb {hint:Hint} {known:Known} {n:Nat} (hE:∀m,m≤n→EvOk P (ev P hint known m)) {cx:Cx} {b:Code} {s:St} {outs:List (Ex×St)} (h:(ev P hint known (n+1)).code cx (.loop b) s=some outs):ZEm P cx (.loop b) s outs:=by
 intro g a w hS hcx
 refine zZp (fun m a' w'=> m≤n∧∃s' g' outs',(ev P hint known (m+1)).code cx (.loop b) s'=some outs'∧(∀r∈outs',r∈outs)∧SR g' s' a' w'∧ZCX g s.h w g' s'.h w') (m:=n)
  ⟨Nat.le_refl _,s,g,outs,h,fun r hr=> hr,hS,Ext.refl _ _ _ _⟩ ?_
 rintro m a1 w1 ⟨hmn,s1,g1,outs1,h1,hsub,hS1,hE1⟩
 have h1:ZD5 (ev P hint known m) cx (.loop b) ((ev P hint known m).code cx b s1)=some outs1:=h1
 cases hb:(ev P hint known m).code cx b s1 with
 |none=> rw[hb] at h1;cases h1
 |some bouts=>
  rw[hb] at h1
  have hm:=zOD h1
  have hbody:=(hE m hmn).code _ _ _ _ hb g1 a1 w1 hS1 (hcx.ext hE1)
  rw[zyZ hcx hE1] at hbody
  refine wpIn_mono hbody ?_
  rintro e a' w' ⟨r,hr,g',hx,q1,q2⟩
  rcases hm r hr with ⟨hn,ys,hy1,hy2⟩|⟨hn,hmem⟩
  ·rw[hn] at hx
   obtain rfl:e=.normal:=hx
   cases m with
   |zero=> cases hy1
   |succ m=> exact⟨m,by omega,by omega,r.2,g',ys,hy1,fun y hy=> hsub y (hy2 y hy),q1,Ext.trans hE1 q2⟩
  ·obtain⟨x,s'⟩:=r
   cases x with
   |normal=> exact absurd rfl hn
   |exit id=> obtain rfl:e=.exit id:=hx;exact⟨_,hsub _ hmem,g',rfl,q1,Ext.trans hE1 q2⟩
   |ret=> obtain rfl:e=.ret:=hx;exact⟨_,hsub _ hmem,g',rfl,q1,Ext.trans hE1 q2⟩
   |pan v=>
    have hx0:=hx
    obtain⟨z,rfl,_⟩:=hx0
    exact⟨_,hsub _ hmem,g',hx,q1,Ext.trans hE1 q2⟩
end
section
variable {P:Program}
theorem H.new_upd {h:H} (hw:h.wf) (b:Blk):(h.new b).get=upd h.get h.n b:=funext fun j=> H.get_new hw b j
theorem zNW {g:G} {h:H} {w:World} (hwf:h.wf) (hW:WR g h.get h.n w) (o:Obj) (b:Blk)
 (hblk:Ext g h.get h.n w (g.put h.n w.heap.size 0 0) (h.new b).get (h.new b).n (w.alloc o)→ZEK (g.put h.n w.heap.size 0 0) (h.new b).get (h.new b).n (w.alloc o) h.n b):
 WR (g.put h.n w.heap.size 0 0) (h.new b).get (h.new b).n (w.alloc o)∧ZCX g h w (g.put h.n w.heap.size 0 0) (h.new b) (w.alloc o):=by
 have hn:(h.new b).n=max h.n (h.n+1):=by show h.n+1=_;omega
 show WR _ (h.new b).get (h.new b).n _∧Ext g h.get h.n w _ (h.new b).get (h.new b).n _
 rw[H.new_upd hwf,hn] at hblk⊢
 exact hW.new zEc o b 0 0 hblk
theorem ZDC.get {cx:Cx} {s:St} (h:ZDC cx s) {l:Nat} (hr:cx.round=some l):l < s.h.n∧(s.h.get l).firm=true:=h l hr
theorem zYs {cx:Cx} {g:G} {s:St} {a:Act} {w:World} (hS:SR g s a w) (hcx:ZDC cx s) {ps:Array Tmp} {assign body:Code} {d:Nat} {dfs:List D} {h:H} (hr:rangeAt cx s=some (d,dfs,h)) (fn:FuncId):
 ∃l mark w1 g1,(Instr.enterLoop fn a.tmps ps assign body (ZC7 g cx.round).round).run P w=.ok (l,mark) w1∧
  (h.new (.loop cx.fn s.regs ps.toList assign body none .ready d)).wf∧
  WR g1 (h.new (.loop cx.fn s.regs ps.toList assign body none .ready d)).get (h.new (.loop cx.fn s.regs ps.toList assign body none .ready d)).n w1∧
  ZCX g s.h w g1 (h.new (.loop cx.fn s.regs ps.toList assign body none .ready d)) w1∧g1.mu h.n=l∧
  dfR g1 (h.new (.loop cx.fn s.regs ps.toList assign body none .ready d)).get (h.new (.loop cx.fn s.regs ps.toList assign body none .ready d)).n dfs (mark++a.defers):=by
 unfold rangeAt at hr
 have loopBlk:∀{g0:G} {h0:H} {w0:World} (d0:Nat),h0.wf→WR g0 h0.get h0.n w0→ZCX g s.h w g0 h0 w0→d0 < h0.n→(h0.get d0).firm=true→∀L:Loop,L.state=.ready→L.pending=none→L.params=ps→L.assign=assign→L.body=body→L.tmps=a.tmps→L.defers=g0.mu d0→
  (h0.new (.loop cx.fn s.regs ps.toList assign body none .ready d0)).wf∧
  WR (g0.put h0.n w0.heap.size 0 0) (h0.new (.loop cx.fn s.regs ps.toList assign body none .ready d0)).get (h0.new (.loop cx.fn s.regs ps.toList assign body none .ready d0)).n (w0.alloc (.loop L))∧
  ZCX g0 h0 w0 (g0.put h0.n w0.heap.size 0 0) (h0.new (.loop cx.fn s.regs ps.toList assign body none .ready d0)) (w0.alloc (.loop L)):=by
  intro g0 h0 w0 d0 hwf0 hW0 hE0 hd0 hf0 L e1 e2 e3 e4 e5 e6 e7
  refine⟨H.wf_new hwf0 _,zNW hwf0 hW0 (.loop L) _ ?_⟩
  intro e
  have hdn:d0≠h0.n:=by omega
  refine⟨L,?_,e1,e2,by rw[e3],e4,e5,?_,?_,?_,?_⟩
  ·rw[show(g0.put h0.n w0.heap.size 0 0).mu h0.n=w0.heap.size from if_pos rfl];exact zaY _ _
  ·rw[e6];exact e.rr (hE0.rr hS.rr)
  ·show d0 < h0.n+1;omega
  ·rw[H.new_upd hwf0,J7 _ _ hdn];exact hf0
  ·rw[show(g0.put h0.n w0.heap.size 0 0).mu d0=g0.mu d0 from if_neg hdn];exact e7
 cases hc:cx.round with
 |some l=>
  obtain⟨hl,hfm⟩:=hcx.get hc
  rw[hc] at hr
  simp only at hr
  split at hr
  ·rename_i fn0 regs0 ps0 asg0 body0 pend0 st0 d0 hg
   obtain⟨rfl,h23⟩:=Prod.mk.inj (Option.some.inj hr)
   obtain⟨rfl,rfl⟩:=Prod.mk.inj h23
   have hb:=hS.wr.blk l hl
   rw[hg] at hb
   obtain⟨L0,i1,i2,i3,i5,i6,i7,i8,i9,i10,i11⟩:=hb
   obtain⟨k0,k1,k2⟩:=loopBlk d0 hS.wf hS.wr (Ext.refl _ _ _ _) i9 i10 {state:=.ready,pending:=none,fn,tmps:=a.tmps,params:=ps,assign,body,defers:=L0.defers} rfl rfl rfl rfl rfl rfl i11
   refine⟨w.heap.size,[],_,_,?_,k0,k1,k2,if_pos rfl,Ql k2 hS.df⟩
   show(Instr.enterLoop fn a.tmps ps assign body (some (g.mu l))).run P w=_
   unfold Instr.enterLoop
   simp only[Sem.run_bind,run_getLoop i1,Result.andThen,Sem.run_pure,run_newObj_alloc]
  ·cases hr
 |none=>
  rw[hc] at hr
  obtain⟨rfl,h23⟩:=Prod.mk.inj (Option.some.inj hr)
  obtain⟨rfl,rfl⟩:=Prod.mk.inj h23
  obtain⟨m1,m2⟩:=zNW hS.wf hS.wr (.deferred (some [])) .dfr fun e=> by
   show(w.alloc (.deferred (some []))).heap[(g.put s.h.n w.heap.size 0 0).mu s.h.n]?=_
   rw[show(g.put s.h.n w.heap.size 0 0).mu s.h.n=w.heap.size from if_pos rfl];exact zaY _ _
  have hg1:(s.h.new .dfr).get s.h.n=.dfr:=by rw[H.new_upd hS.wf,zG]
  obtain⟨k0,k1,k2⟩:=loopBlk s.h.n (H.wf_new hS.wf _) m1 m2 (by show s.h.n < s.h.n+1;omega) (by rw[hg1];rfl) {state:=.ready,pending:=none,fn,tmps:=a.tmps,params:=ps,assign,body,defers:=w.heap.size} rfl rfl rfl rfl rfl rfl (by rw[show(g.put s.h.n w.heap.size 0 0).mu s.h.n=w.heap.size from if_pos rfl])
  refine⟨w.heap.size+1,[{target:=.collected w.heap.size,args:=#[]}],_,_,run_enterLoop_outer _ _ _ _ _,k0,k1,Ext.trans m2 k2,?_,?_⟩
  ·rw[show(G.put (g.put s.h.n w.heap.size 0 0) (s.h.new Blk.dfr).n (w.alloc (.deferred (some []))).heap.size 0 0).mu (s.h.new Blk.dfr).n=(w.alloc (.deferred (some []))).heap.size from if_pos rfl]
   show(w.heap.push _).size=_
   simp
  ·have hlt:s.h.n < (s.h.new Blk.dfr).n:=by show s.h.n < s.h.n+1;omega
   obtain⟨q1,q2,_⟩:=k2.ids s.h.n hlt (by rw[hg1];rfl)
   refine⟨a.defers,?_,Nat.lt_of_lt_of_le hlt k2.n_le,q1,Ql (Ext.trans m2 k2) hS.df⟩
   rw[q2,show(g.put s.h.n w.heap.size 0 0).mu s.h.n=w.heap.size from if_pos rfl]
   rfl
theorem zQc {E:Ev} (hE:EvOk P E) {cx:Cx} {f:Operand} {ps:Array Tmp} {assign body:Code} {s:St} {d:Nat} {dfs:List D} {h:H} (hr:rangeAt cx s=some (d,dfs,h)) {gf:FuncId} {first cap:List V} (hf:rd s.regs f=some (.fn (.func gf) first cap))
 {couts:List (R×H)} (hc:E.call gf (first++[.fn (.yield h.n) [] []]++cap) (h.new (.loop cx.fn s.regs ps.toList assign body none .ready d))=some couts)
 {outs:List (Ex×St)} (ho:ZCA (ZEh E cx s dfs h.n) couts=some outs):ZEm P cx (.rangeFunc f ps assign body) s outs:=by
 intro g a w hS hcx
 refine wpIn_rangeFunc fun fn _=> ?_
 obtain⟨l,mark,w1,g1,k1,k2,k3,k4,k5,k6⟩:=zYs (P:=P) (ps:=ps) (assign:=assign) (body:=body) hS hcx hr fn
 obtain⟨hb,hok⟩:=hE.call _ _ _ _ hc
 have hv:=zQ hS.rr hf
 simp only[vr] at hv
 obtain⟨f',a',c',e,h1,h2,h3⟩:=hv
 obtain rfl:f'=.func gf:=h1
 have hln:h.n < (h.new (.loop cx.fn s.regs ps.toList assign body none .ready d)).n:=by show h.n < h.n+1;omega
 have hwf:h.wf:=by
  unfold rangeAt at hr
  split at hr
  ·split at hr
   ·obtain⟨rfl,h23⟩:=Prod.mk.inj (Option.some.inj hr)
    obtain⟨rfl,rfl⟩:=Prod.mk.inj h23
    exact hS.wf
   ·cases hr
  ·obtain⟨rfl,h23⟩:=Prod.mk.inj (Option.some.inj hr)
   obtain⟨rfl,rfl⟩:=Prod.mk.inj h23
   exact H.wf_new hS.wf _
 have hgl:(h.new (.loop cx.fn s.regs ps.toList assign body none .ready d)).get h.n=.loop cx.fn s.regs ps.toList assign body none .ready d:=by rw[H.new_upd hwf,zG]
 refine⟨l,mark,w1,{target:=.fn (.func gf) c',args:=a'++#[.func (.yield l) #[] #[]]},w1,gf,(a'++#[.func (.yield l) #[] #[]])++c',w1,k1,?_,fun f' _=> za6 _ _ f',?_,fun hd=> (by rw[zyY] at hd;cases hd),?_⟩
 ·unfold resolve rangeCall
  have hmap:(#[Operand.const (.func (.yield l) #[] #[])]:Array Operand).map a.eval=#[.func (.yield l) #[] #[]]:=by simp[Act.eval]
  simp only[e,Deferred.ofValue,hmap]
  rfl
 ·exact zwq hb _ _
 ·refine zDx (CallsIn.mono (hok g1 _ w1 k2 k3 ?_) ?_)
  ·rw[Array.toList_append,Array.toList_append]
   refine QW (QW (k4.vrl h2) ?_) (k4.vrl h3)
   simp only[vrl,vr]
   refine⟨_,[],rfl,⟨.yield l,#[],#[],rfl,?_,rfl,rfl⟩,rfl⟩
   exact⟨hln,by rw[hgl];rfl,k5.symm⟩
  ·rintro en w3 ⟨x,r,hrm,hen,g3,q1,q2,q3,q4⟩
   obtain⟨ys,hy1,hy2⟩:=zwD ho r hrm
   obtain⟨rv,r2⟩:=r
   unfold ZEh at hy1
   cases rv with
   |pan v=>
    obtain rfl:en=.panicked [{v:=x,recovered:=false}]:=hen
    obtain rfl:=Option.some.inj hy1
    show∃r∈outs,_
    have hall:=Ext.trans k4 q3
    exact⟨_,hy2 _ (List.mem_singleton.2 rfl),g3,⟨x,rfl,q4⟩,⟨q1,hall.rr hS.rr,q2,Ql q3 k6⟩,hall⟩
   |ret v=>
   obtain rfl:en=.returned x:=hen
   show rangePost _ _ _ _ _ _ (.returned x) w3
   try simp only at hy1
   split at hy1
   ·rename_i fn3 regs3 ps3 asg3 body3 pend3 st3 d3 hg3
    split at hy1
    ·cases hy1
    ·rename_i hst
     have hln3:h.n < r2.n:=Nat.lt_of_lt_of_le hln q3.n_le
     have hb3:=q2.blk h.n hln3
     rw[hg3] at hb3
     obtain⟨L,i1,i2,i3,i5,i6,i7,i8,i9,i10,i11⟩:=hb3
     have hmu:g3.mu h.n=l:=by rw[(q3.ids h.n hln (by rw[hgl];rfl)).2.1,k5]
     rw[hmu] at i1
     have hend:=run_endLoop (P:=P) i1 (by rw[i2];exact hst)
     obtain⟨hW4,hX4⟩:=q2.set_loop hln3 hg3 (by rw[hmu];exact i1) (st':=.exhausted) (pend':=pend3) (L':={L with state:=.exhausted}) (by rw[←i3])
     rw[hmu] at hW4 hX4
     have hget:(r2.set h.n (.loop fn3 regs3 ps3 asg3 body3 pend3 .exhausted d3)).get=upd r2.get h.n (.loop fn3 regs3 ps3 asg3 body3 pend3 .exhausted d3):=H.set_upd' q1 hln3 _
     have hX4':ZCX g3 r2 w3 g3 (r2.set h.n (.loop fn3 regs3 ps3 asg3 body3 pend3 .exhausted d3)) (w3.putObj l (.loop {L with state:=.exhausted})):=by
      show Ext g3 r2.get r2.n w3 g3 (r2.set h.n _).get r2.n _
      rw[hget];exact hX4
     generalize w3.putObj l (.loop {L with state:=.exhausted})=w4 at hend hW4 hX4 hX4'
     have hall:=Ext.trans (Ext.trans k4 q3) hX4'
     have hS5:SR g3 {s with dfs,h:=r2.set h.n (.loop fn3 regs3 ps3 asg3 body3 pend3 .exhausted d3)} {a with defers:=mark++a.defers} w4:=by
      refine⟨H.wf_set q1 _ _,hall.rr hS.rr,?_,Ql (Ext.trans q3 hX4') k6⟩
      show WR g3 (r2.set h.n _).get r2.n _
      rw[hget];exact hW4
     refine⟨L.pending,_,hend,?_⟩
     rw[i3]
     try simp only at hy1
     cases pend3 with
     |none=>
      simp only at hy1
      obtain rfl:=Option.some.inj hy1
      exact⟨_,hy2 _ (List.mem_singleton.2 rfl),g3,rfl,hS5,hall⟩
     |some c=>
      simp only at hy1
      exact(hE.code _ _ _ _ hy1).on (s:=s) (s1:={s with dfs,h:=r2.set h.n (.loop fn3 regs3 ps3 asg3 body3 (some c) .exhausted d3)}) hy2 hcx hS5 hall
   ·cases hy1
def ZES (P:Program) (known:Known):Prop:=
 ∀f,known.idle f=true→ZDj P f∧∀(g:G) (get:Nat→Blk) (n:Nat) (w:World) (xs:Array Value),WR g get n w→
  CallsDIn Fence.wide 0 P f xs .returning w fun e u' w'=> (∃x,e=.returned x)∧u'=.returning∧∃g',WR g' get n w'∧Ext g get n w g' get n w'
def ZFy (g:G) (h:H):Option V→FrameMode→Prop
 |none,u=> u=.returning
 |some v,u=> ∃x,u=.panicking [{v:=x,recovered:=false}]∧vr g.I (g.at h.get h.n) v x
theorem zXP {g g':G} {h h':H} {w w':World} (e:ZCX g h w g' h' w') {m:Option V} {u:FrameMode} (hm:ZFy g h m u):ZFy g' h' m u:=by
 cases m with
 |none=> exact hm
 |some v=> obtain⟨x,h1,h2⟩:=hm;exact⟨x,h1,e.vr h2⟩
theorem zNS {g:G} {h:H} {m:Option V} {u:FrameMode} (hm:ZFy g h m u):u≠.run:=by
 cases m with
 |none=> obtain rfl:u=.returning:=hm;simp
 |some v=> obtain⟨x,rfl,_⟩:=hm;simp
theorem zOH:∀(vs:List V) (i:Nat) (t:T V) (n:Nat),t.full n→i+vs.length≤n→(ZD6 vs i t).full n∧∀j,(ZD6 vs i t).get ZmM j=if i≤j∧j < i+vs.length then vs.getD (j - i) ZmM else t.get ZmM j
 |[],i,t,n,hf,_=> ⟨hf,fun j=> by rw[if_neg (by simp only[List.length_nil];omega)];rfl⟩
 |v::vs,i,t,n,hf,hn=> by
  simp only[List.length_cons] at hn
  obtain⟨h1,h2⟩:=zOH vs (i+1) (t.set i v) n (T.full_set hf i v) (by omega)
  refine⟨h1,fun j=> ?_⟩
  show(ZD6 vs (i+1) (t.set i v)).get ZmM j=_
  rw[h2,T.get_set_full _ hf]
  simp only[List.length_cons]
  by_cases hj:i+1≤j∧j < i+1+vs.length
  ·rw[if_pos hj,if_pos (by omega),show j - i=(j - (i+1))+1 by omega,List.getD_cons_succ]
  ·rw[if_neg hj]
   by_cases hj2:j=i
   ·subst hj2
    rw[if_pos ⟨rfl,by omega⟩,if_pos (by omega),Nat.sub_self,List.getD_cons_zero]
   ·rw[if_neg (fun hh=> hj2 hh.1),if_neg (by omega)]
theorem zON {I:Imm} {A:At} {args:List V} {xs:Array Value} (hv:vrl I A args xs.toList) {n:Nat} (hn:args.length≤n) (hb:n < 2 ^ 20):RR I A (ZD6 args 0 (T.fill ZmM 20 n)) (xs++Array.replicate (n - xs.size) undef):=by
 have hlen:xs.size=args.length:=by rw[←Array.length_toList];exact Zg hv
 obtain⟨h1,h2⟩:=zOH args 0 (T.fill ZmM 20 n) n (T.full_fill ZmM 20 n hb) (by omega)
 have hsz:(xs++Array.replicate (n - xs.size) undef).size=n:=by rw[Array.size_append,Array.size_replicate];omega
 refine⟨by rw[hsz];exact h1,fun j=> ?_⟩
 rw[h2,T.get_fill]
 by_cases hj:j < args.length
 ·rw[if_pos ⟨Nat.zero_le _,by omega⟩,Nat.sub_zero]
  have hja:args[j]?=some (args.getD j ZmM):=by rw[List.getD_eq_getElem?_getD,List.getElem?_eq_getElem hj];rfl
  obtain⟨x,hx,hvx⟩:=zab hv hja
  have:(xs++Array.replicate (n - xs.size) undef).getD j undef=x:=by
   rw[Array.getD_eq_getD_getElem?,Array.getElem?_append_left (by omega),←Array.getElem?_toList,hx];rfl
  rw[this];exact hvx
 ·rw[if_neg (by omega)]
  have:(xs++Array.replicate (n - xs.size) undef).getD j undef=undef:=by
   rw[Array.getD_eq_getD_getElem?,Array.getElem?_append_right (by omega),Array.getElem?_replicate]
   split <;> rfl
  rw[this];exact zjm
theorem zwm {a:Act} {d:Tmp} (h:d < a.tmps.size) (v:Value):(a.put (some d) v).eval (.tmp d)=v:=by
 simp[Act.eval,Act.put,h]
theorem zQj {E:Ev} (hE:EvOk P E) (hname:∀(f:FuncId) (fn:Func),P.funcs[f]?=some fn→(fn.name== "runtime.NumGoroutine")=false) {f:FuncId} {xs:List V} {m m':Option V} {h h':H} (hd:ZFb P E f xs m h=some (m',h')):
 ZDj P f∧m'=none∧∀(g:G) (w:World) (ys:Array Value) (u:FrameMode),h.wf→WR g h.get h.n w→vrl g.I (g.at h.get h.n) xs ys.toList→ZFy g h m u→
  CallsDIn Fence.wide 0 P f ys u w fun e u' w'=> (∃x,e=.returned x)∧settle u'=.returning∧∃g',h'.wf∧WR g' h'.get h'.n w'∧ZCX g h w g' h' w':=by
 unfold ZFb at hd
 split at hd
 ·rename_i fn hfn
  split at hd
  ·rename_i id ops rest hbody
   split at hd
   ·rename_i o1 o2 hops
    split at hd
    ·rename_i c b d1 d2 p1 p2 q1 q2
     split at hd
     rotate_left
     ·simp only[Bool.false_and,Bool.false_eq_true,if_false] at hd;cases hd
     rename_i hcal
     split at hd
     ·rename_i hcond
      simp only[Bool.true_and,Bool.and_eq_true] at hcond
      obtain⟨⟨⟨⟨⟨⟨e1,g1⟩,g2⟩,hres⟩,hlen⟩,hnt⟩,hd1⟩:=hcond
      obtain rfl:=Nat.eq_of_beq_eq_true e1
      have hlen:xs.length≤fn.ntmps:=Nat.le_of_ble_eq_true hlen
      have hnt:fn.ntmps < 2 ^ 20:=Nat.le_of_ble_eq_true hnt
      have hd1:b < fn.ntmps:=Nat.le_of_ble_eq_true hd1
      have hr0:fn.results=#[]:=Array.eq_empty_of_size_eq_zero (Nat.eq_of_beq_eq_true hres)
      have hcode:∃x s,E.code {fn:=f,round:=none} rest {regs:=((ZD6 xs 0 (T.fill ZmM 20 fn.ntmps)).set b (m.getD .nilif)).set d2 (m.getD .nilif),dfs:=[],h}=some [(x,s)]∧(x=.normal∨x=.ret)∧s.dfs=[]∧m'=none∧h'=s.h:=by
       simp only at hd
       split at hd
       ·rename_i s hc
        split at hd
        ·rename_i hdf
         obtain⟨rfl,rfl⟩:=Prod.mk.inj (Option.some.inj hd)
         exact⟨_,s,hc,.inl rfl,hdf,rfl,rfl⟩
        ·cases hd
       ·rename_i s hc
        split at hd
        ·rename_i hdf
         obtain⟨rfl,rfl⟩:=Prod.mk.inj (Option.some.inj hd)
         exact⟨_,s,hc,.inr rfl,hdf,rfl,rfl⟩
        ·cases hd
       ·cases hd
      obtain⟨xe,s,hc,hxe,hdf,rfl,rfl⟩:=hcode
      refine⟨⟨fn,hfn,hname f fn hfn,by rw[hbody];rfl⟩,rfl,fun g w ys u hwf hW hv hm=> ?_⟩
      refine callsDIn_of_wpSIn hfn hbody trivial fun c₀ cs hmode=> ?_
      have hR0:=zON hv hlen hnt
      generalize ht0:ys++Array.replicate (fn.ntmps - ys.size) undef=tmps0 at hR0
      have hsz:fn.ntmps≤tmps0.size:=by rw[←ht0,Array.size_append,Array.size_replicate];omega
      have k1:ops[0]?=some o1:=by rw[←Array.getElem?_toList,hops];rfl
      have k2:ops[1]?=some o2:=by rw[←Array.getElem?_toList,hops];rfl
      have hs2:ops.size=2:=by rw[←Array.length_toList,hops];rfl
      have w1:∀yl,Region.wanted o1 yl=true:=fun yl=> by unfold Region.wanted;rw[Option.isNone_iff_eq_none.1 g1]
      have w2:∀yl,Region.wanted o2 yl=true:=fun yl=> by unfold Region.wanted;rw[Option.isNone_iff_eq_none.1 g2]
      have r1:∀(a:Act) (w:World),(execOp a.eval o1).run P w=.ok .recover w:=fun a w=> by
       have hres:∃ts ty cs,resolve a.eval c o1.type=pure {target:=.builtin .recover ts ty cs,args:=c.args.map a.eval}:=by
        unfold resolve
        rw[hcal]
        exact⟨_,_,_,rfl⟩
       obtain⟨ts,ty,cs',hres⟩:=hres
       unfold execOp
       rw[p1]
       simp only[hres]
       rfl
      obtain⟨z,u',hz,hstep,hset⟩:∃z u',vr g.I (g.at h.get h.n) (m.getD .nilif) z∧
       (∀{K:Value→List Frame→Prop},K z ({c₀ with mode:=u'}::cs)→(match recoverD (c₀::cs) with|some (v,cs')=> K v cs'|none=> K .nilIface (c₀::cs)))∧settle u'=.returning:=by
       cases m with
       |none=>
        have hu:u=.returning:=hm
        refine⟨.nilIface,.returning,by simp[vr],fun {K} hk=> ?_,rfl⟩
        have:recoverD (c₀::cs)=none:=by simp only[recoverD,hmode,hu]
        rw[this]
        have hc0:({c₀ with mode:=.returning}:Frame)=c₀:=by rw[←hu,←hmode]
        rw[hc0] at hk;exact hk
       |some v=>
        obtain⟨x,hu,hx⟩:=hm
        refine⟨x,.panicking [{v:=x,recovered:=true}],hx,fun {K} hk=> ?_,rfl⟩
        have:recoverD (c₀::cs)=some (x,{c₀ with mode:=.panicking [{v:=x,recovered:=true}]}::cs):=by simp only[recoverD,hmode,hu]
        rw[this];exact hk
      refine wpSIn_seq (wpSIn_region ?_)
      rw[hs2]
      show wpOpsSIn Fence.wide 0 P ops _ [0,1] _ _ _
      simp only[wpOpsSIn,k1,k2,w1,w2,if_true,r1]
      refine⟨fun f _=> trivial,hstep (K:=fun v cs'=> _∧_) ⟨fun f _=> trivial,?_⟩⟩
      have r2:(execOp (({tmps:=tmps0,defers:=[]}:Act).put o1.dst z).eval o2).run P w=.ok (.value z) w:=by
       unfold execOp
       rw[p2,q1]
       simp only
       rw[zwm (Nat.lt_of_lt_of_le hd1 hsz)]
       rfl
      rw[r2]
      simp only
      show Exit.thenS _ _ Exit.normal _ _ _
      refine wpSIn_of_wpIn rfl ?_
      have hS:SR g {regs:=((ZD6 xs 0 (T.fill ZmM 20 fn.ntmps)).set b (m.getD .nilif)).set d2 (m.getD .nilif),dfs:=[],h} ((({tmps:=tmps0,defers:=[]}:Act).put o1.dst z).put o2.dst z) w:=by
       refine⟨hwf,?_,hW,by rw[zaa,zaa];rfl⟩
       rw[q1,q2]
       exact(hR0.set b hz).set d2 hz
      refine wpIn_mono (hE.code _ _ _ _ hc g _ w hS (fun l hl=> by cases hl)) ?_
      rintro e a' w' ⟨r,hr,g',hx,q3,q4⟩
      obtain rfl:=List.mem_singleton.1 hr
      have hdd:a'.defers=[]:=by have:=q3.df;rw[hdf] at this;exact this
      have fin:a'.defers=[]∧∃u'',({c₀ with mode:=u'}:Frame)::cs={c₀ with mode:=u''}::cs∧∃v,(results fn a'.tmps).run P w'=.ok v w'∧((∃x,Ending.returned v=.returned x)∧settle u''=.returning∧∃g',s.h.wf∧WR g' s.h.get s.h.n w'∧ZCX g h w g' s.h w'):=by
       refine⟨hdd,u',rfl,.tuple #[],?_,⟨_,rfl⟩,hset,g',q3.wf,q3.wr,q4⟩
       unfold results
       rw[hr0]
       simp
      rcases hxe with rfl|rfl
      ·obtain rfl:e=.normal:=hx
       exact fin
      ·obtain rfl:e=.ret:=hx
       exact fin
     ·cases hd
    ·cases hd
   ·cases hd
  ·cases hd
 ·cases hd
theorem zwv {known:Known} (hI:ZES P known) {E:Ev} (hE:EvOk P E) (hname:∀(f:FuncId) (fn:Func),P.funcs[f]?=some fn→(fn.name== "runtime.NumGoroutine")=false) {fn:Func} {tmps:Array Value} {R:Ending→World→Prop}:
 ∀(dfs:List D) (ds:List Deferred) (m m':Option V) (h h':H) (g:G) (w:World) (u:FrameMode),ZDh P known E dfs m h=some (m',h')→h.wf→WR g h.get h.n w→dfR g h.get h.n dfs ds→ZFy g h m u→
  (∀g' w' u',h'.wf→WR g' h'.get h'.n w'→ZCX g h w g' h' w'→ZFy g' h' m' u'→LeavesIn Fence.wide 0 P fn tmps R [] u' w')→LeavesInM Fence.wide 0 P fn tmps R ds u w
 |[],ds,m,m',h,h',g,w,u,hu,hwf,hW,hd,hm,hk=> by
  obtain rfl:ds=[]:=hd
  obtain⟨rfl,rfl⟩:=Prod.mk.inj (Option.some.inj hu)
  exact hk g w u hwf hW (Ext.refl _ _ _ _) hm
 |.mark r::dfs,ds,m,m',h,h',g,w,u,hu,hwf,hW,hd,hm,hk=> by
  obtain⟨ds',rfl,hr,hfm,hd'⟩:=hd
  simp only[ZDh] at hu
  split at hu
  ·rename_i hg
   have hb:=hW.blk r hr
   rw[hg] at hb
   have hb:w.heap[g.mu r]?=some (.deferred (some [])):=hb
   obtain⟨hW2,hX2⟩:=hW.set_obj hr (by rw[hg];rfl) hfm hb (by simp) (ob':=.deferred none) (by simp) (b:=.gone) rfl (fun _ _ _ _ _ _ _ _ _ _ _ he=> by cases he) (fun _=> trivial) (fun _ _ he=> by rw[hg] at he;cases he)
   have hget:(h.set r .gone).get=upd h.get r .gone:=H.set_upd' hwf hr _
   have hX2':ZCX g h w g (h.set r .gone) {w with heap:=w.heap.setIfInBounds (g.mu r) (.deferred none)}:=by
    show Ext g h.get h.n w g (h.set r _).get h.n _
    rw[hget];exact hX2
   refine⟨zNS hm,.inl ⟨g.mu r,_,rfl,run_takeDeferred hb,?_⟩⟩
   refine zwv hI hE hname dfs ds' m m' (h.set r .gone) h' g _ u hu (H.wf_set hwf _ _) ?_ (Ql hX2' hd') (zXP hX2' hm) ?_
   ·show WR g (h.set r _).get h.n _
    rw[hget];exact hW2
   ·intro g' w' u' a1 a2 a3 a4
    exact hk g' w' u' a1 a2 (Ext.trans hX2' a3) a4
  ·cases hu
 |.call f cap args::dfs,ds,m,m',h,h',g,w,u,hu,hwf,hW,hd,hm,hk=> by
  obtain⟨d,ds',rfl,⟨c,ht,hcap,hargs⟩,hd'⟩:=hd
  simp only[ZDh] at hu
  split at hu
  ·rename_i hid
   rw[Bool.and_eq_true] at hid
   obtain rfl:m=none:=Option.isNone_iff_eq_none.1 hid.1
   obtain rfl:u=.returning:=hm
   obtain⟨hb,hcall⟩:=hI f hid.2
   refine⟨by simp,.inr ⟨fun hh=> (by cases hh),.func f,c,f,d.args++c,ht,?_,fun _ _=> trivial,?_⟩⟩
   ·rw[ht];exact zwq hb _ _
   ·refine(hcall g h.get h.n w _ hW).mono ?_
    rintro e u' w' ⟨⟨x,rfl⟩,rfl,g',q1,q2⟩
    refine zwv hI hE hname dfs ds' none m' h h' g' w' .returning hu hwf q1 (Ql q2 hd') rfl ?_
    intro g'' w'' u'' a1 a2 a3 a4
    exact hk g'' w'' u'' a1 a2 (Ext.trans q2 a3) a4
  ·split at hu
   ·rename_i m1 h1 hdef
    obtain⟨hb,rfl,hcall⟩:=zQj hE hname hdef
    refine⟨zNS hm,.inr ⟨fun hh=> (by cases hh),.func f,c,f,d.args++c,ht,?_,fun _ _=> trivial,?_⟩⟩
    ·rw[ht];exact zwq hb _ _
    ·refine(hcall g w (d.args++c) u hwf hW (by rw[Array.toList_append];exact QW hargs hcap) hm).mono ?_
     rintro e u' w' ⟨⟨x,rfl⟩,hset,g',q0,q1,q2⟩
     show LeavesInM Fence.wide 0 P fn tmps R ds' (settle u') w'
     rw[hset]
     refine zwv hI hE hname dfs ds' none m' h1 h' g' w' .returning hu q0 q1 (Ql q2 hd') rfl ?_
     intro g'' w'' u'' a1 a2 a3 a4
     exact hk g'' w'' u'' a1 a2 (Ext.trans q2 a3) a4
   ·cases hu
theorem zYx {g:G} {s:St} {tmps:Array Value} {w:World} (hR:RR g.I (g.at s.h.get s.h.n) s.regs tmps) (hW:WR g s.h.get s.h.n w) {r:ResultVar} {v:V} (h:ZE3 P s r=some v):
 ∃x,(match r with|.tmp t=> pure (tmps.getD t undef)|.cell a t=> (do loadVar t (←asAddr (tmps.getD a undef))):Sem Value).run P w=.ok x w∧vr g.I (g.at s.h.get s.h.n) v x:=by
 cases r with
 |tmp t=>
  obtain rfl:=Option.some.inj h
  exact⟨_,rfl,hR.val t⟩
 |cell a t=>
  unfold ZE3 at h
  simp only at h
  split at h
  ·rename_i r off hra
   have hv:=hR.val a
   rw[hra] at hv
   simp only[vr] at hv
   obtain⟨ad,hxe,hr,hfm,rfl⟩:=hv
   split at h
   ·rename_i k cs hg
    split at h
    ·rename_i hoff
     obtain⟨c,el,xs,m1,m2,m3,m4,m5,m6,m7⟩:=zkm hW hr hg
     obtain⟨x,q1,q2⟩:=zOw (P:=P) (zb0 m4 off) (m6.drop off) h
     refine⟨x,?_,q2⟩
     simp only[hxe]
     rw[Sem.run_bind]
     exact q1
    ·cases h
   ·cases h
  ·cases h
theorem zOq {g:G} {s:St} {tmps:Array Value} {w:World} (hR:RR g.I (g.at s.h.get s.h.n) s.regs tmps) (hW:WR g s.h.get s.h.n w):∀{rs:List ResultVar} {vs:List V},ZCk P s rs=some vs→
 ∃xs,(rs.mapM fun r=> (match r with|.tmp t=> pure (tmps.getD t undef)|.cell a t=> (do loadVar t (←asAddr (tmps.getD a undef))):Sem Value)).run P w=.ok xs w∧vrl g.I (g.at s.h.get s.h.n) vs xs
 |[],vs,h=> by
  obtain rfl:=Option.some.inj h
  exact⟨[],rfl,rfl⟩
 |r::rs,vs,h=> by
  simp only[ZCk] at h
  split at h
  ·rename_i v vs' h1 h2
   obtain rfl:=Option.some.inj h
   obtain⟨x,q1,q2⟩:=zYx hR hW h1
   obtain⟨xs,q3,q4⟩:=zOq hR hW h2
   refine⟨x::xs,?_,by rw[vrl];exact⟨x,xs,rfl,q2,q4⟩⟩
   rw[List.mapM_cons,Sem.run_bind,q1]
   simp only[Result.andThen,Sem.run_bind]
   rw[q3]
   rfl
  ·cases h
theorem zYy {g:G} {s:St} {tmps:Array Value} {w:World} (hR:RR g.I (g.at s.h.get s.h.n) s.regs tmps) (hW:WR g s.h.get s.h.n w) {fn:Func} {v:V} (h:ZD2 P fn s=some v):
 ∃x,(results fn tmps).run P w=.ok x w∧vr g.I (g.at s.h.get s.h.n) v x:=by
 unfold ZD2 at h
 have key:∀vs,ZCk P s fn.results.toList=some vs→∃xs:Array Value,(results fn tmps).run P w=.ok (if h:xs.size=1 then xs[0] else .tuple xs) w∧vrl g.I (g.at s.h.get s.h.n) vs xs.toList:=by
  intro vs hvs
  obtain⟨xs,q1,q2⟩:=zOq hR hW hvs
  refine⟨xs.toArray,?_,q2⟩
  unfold results
  rw[Sem.run_bind]
  have:fn.results=fn.results.toList.toArray:=by simp
  rw[this,List.mapM_toArray,Sem.run_map]
  erw [q1]
  rfl
 split at h
 ·rename_i v' hvs
  obtain rfl:=Option.some.inj h
  obtain⟨xs,q1,q2⟩:=key _ hvs
  simp only[vrl] at q2
  obtain⟨x,ys,e,hx,rfl⟩:=q2
  have hxs:xs=#[x]:=Array.toList_inj.1 e
  subst hxs
  exact⟨x,q1,hx⟩
 ·rename_i vs hne hvs
  obtain rfl:=Option.some.inj h
  obtain⟨xs,q1,q2⟩:=key _ hvs
  have hsz:¬xs.size=1:=fun hh=> by
   have:=Zg q2
   rw[Array.length_toList,hh] at this
   match vs,this with
   |[v],_=> exact hne v rfl
  rw[dif_neg hsz] at q1
  exact⟨_,q1,by simp only[vr];exact⟨xs,rfl,q2⟩⟩
 ·cases h
theorem zEf {known:Known} (hI:ZES P known) {E:Ev} (hE:EvOk P E) (hname:∀(f:FuncId) (fn:Func),P.funcs[f]?=some fn→(fn.name== "runtime.NumGoroutine")=false) {f:FuncId} {args:List V} {h:H} {outs:List (R×H)} (ho:(ZDL P known f).run E args h=some outs):ZDj P f∧ZDt P f args h outs:=by
 unfold ZDL at ho
 split at ho
 ·cases ho
 ·rename_i fn hfn
  split at ho
  ·cases ho
  ·rename_i c hc
   refine⟨⟨fn,hfn,hname f fn hfn,by rw[hc];rfl⟩,?_⟩
   intro g xs w hwf hW hv
   simp only at ho
   split at ho
   ·rename_i hcond
    rw[Bool.and_eq_true] at hcond
    have hn1:args.length≤fn.ntmps:=Nat.le_of_ble_eq_true hcond.1
    have hn2:fn.ntmps < 2 ^ 20:=Nat.le_of_ble_eq_true hcond.2
    split at ho
    ·rename_i couts hco
     refine callsIn_of_wp_marks hfn hc trivial ?_
     have hS:SR g {regs:=ZD6 args 0 (T.fill ZmM 20 fn.ntmps),dfs:=[],h} {tmps:=xs++Array.replicate (fn.ntmps - xs.size) undef,defers:=[]} w:=⟨hwf,zON hv hn1 hn2,hW,rfl⟩
     refine wpIn_mono (hE.code _ _ _ _ hco g _ w hS (fun l hl=> by cases hl)) ?_
     rintro e a' w' ⟨r,hr,g',hx,q1,q2⟩
     obtain⟨y,hy,hend⟩:=zjq ho r hr
     have leave:∀(m:Option V) (u:FrameMode),ZFy g' r.2.h m u→(match ZDh P known E r.2.dfs m r.2.h with
      |some (none,h)=> match ZD2 P fn {r.2 with h} with
       |some v=> some (R.ret v,h)
       |none=> none
      |some (some v,h)=> some (R.pan v,h)
      |none=> none)=some y→LeavesInM Fence.wide 0 P fn a'.tmps (fun e w'=> ∃x,∃r∈outs,ZGd r.1.isPan x e∧∃g',r.2.wf∧WR g' r.2.get r.2.n w'∧Ext g h.get h.n w g' r.2.get r.2.n w'∧vr g'.I (g'.at r.2.get r.2.n) r.1.v x) a'.defers u w':=by
      intro m u hm hend
      split at hend
      ·rename_i h2 hu
       split at hend
       ·rename_i v hres
        obtain rfl:=Option.some.inj hend
        refine zwv hI hE hname _ _ _ _ _ _ g' w' u hu q1.wf q1.wr q1.df hm ?_
        intro g2 w2 u2 a1 a2 a3 a4
        obtain rfl:u2=.returning:=a4
        obtain⟨x,m1,m2⟩:=zYy (P:=P) (s:={r.2 with h:=h2}) (tmps:=a'.tmps) (a3.rr q1.rr) a2 hres
        exact⟨x,m1,x,_,hy,rfl,g2,a1,a2,Ext.trans q2 a3,m2⟩
       ·cases hend
      ·rename_i v h2 hu
       obtain rfl:=Option.some.inj hend
       refine zwv hI hE hname _ _ _ _ _ _ g' w' u hu q1.wf q1.wr q1.df hm ?_
       intro g2 w2 u2 a1 a2 a3 a4
       obtain⟨x,rfl,hx2⟩:=a4
       exact⟨x,_,hy,rfl,g2,a1,a2,Ext.trans q2 a3,hx2⟩
      ·cases hend
     obtain⟨xe,s'⟩:=r
     unfold ZDD at hend
     cases xe with
     |normal=> obtain rfl:e=.normal:=hx;exact leave none .returning rfl hend
     |ret=> obtain rfl:e=.ret:=hx;exact leave none .returning rfl hend
     |exit i=> cases hend
     |pan v=>
      obtain⟨z,rfl,hz⟩:=hx
      exact leave (some v) _ ⟨z,rfl,hz⟩ hend
    ·cases ho
   ·cases ho
end
end
end Go.Ae
end
