/- Equation recognizes exactly the equations, and returns their parts: for every input of bulk at most 1048576 the statement RewriteEquations returns true, and leaves its input as it was. No other condition. -/
import Derived.Test.YtapdblnejhijnaaGreatH2
import Derived.Test.YtapdblnejhijnaaGreatH3
import Derived.OpenShut
import Derived.JoinedCond
set_option linter.all false
noncomputable section
set_option maxRecDepth 100000
namespace Go.Proofs.YtapdblnejhijnaaGreat
open Go Go.Ae Go.ChangeShapes Go.WideShapes Go.ChangeAt Go.RowKit
theorem Tryz.own:ownKnob Tryz.prog.godebug=none:=by kernel_rfl
theorem Tryz.laidOut:laidOutB Tryz.prog=true:=zNB
theorem Eq.rr22:Tryz.prog.readableRec 22=true:=by kernel_rfl
theorem Eq.rr26:Tryz.prog.readableRec 26=true:=by kernel_rfl
theorem Eq.tn26:26 < Tryz.prog.types.size:=of_decide_eq_true (by kernel_rfl)
theorem Eq.ok22 {W:World} {r:Reach} {base:Nat} {v:Value} (h:Value.okWide Tryz.prog W r base 22 v):v.cells.toList=[v]:=by
 simp only[Value.okWide,Eq.u22,Cell.okWide] at h
 cases v <;> first|rfl|(simp[Cell.ok,Eq.u22] at h)
theorem Eq.st26:∃fs,Tryz.prog.underlying 26=some (.struct fs):=by
 have h:(match Tryz.prog.underlying 26 with|some (.struct _)=> true|_=> false)=true:=by kernel_rfl
 split at h
 ·rename_i fs hu;exact⟨fs,hu⟩
 ·cases h
theorem Eq.okS {W:World} {r:Reach} {base:Nat} {t:TypeId} {v:Value} {fs:Array Field} (hu:Tryz.prog.underlying t=some (.struct fs)) (h:Value.okWide Tryz.prog W r base t v):∃cs,v=.agg cs:=by
 simp only[Value.okWide,hu] at h
 obtain⟨cs,h,_⟩:=h
 exact⟨cs,h⟩
theorem Eq.contract (H:Type) (enc:TypeId×Value→H) (W:World) (base:Nat) (args:Array Value) (ds gs:List (DataW H)) (before:List MemPlace)
 (hval0:∀(j:Nat) t v,Tryz.f3.params[j]?=some t→args[j]?=some v→Value.okWide Tryz.prog W .any base t v)
 (hW:DataW.Whole enc Tryz.prog Tryz.f3.params.toList Rows.rewriteEquationsSpec.vars false W args.toList ds gs before) (hk:Rows.uptoSmall H (ds++gs)=true):
 Calls Tryz.prog 3 args W fun e W'=> ∃v,e=.returned v∧Rows.rewriteEquationsSpec.post enc Tryz.prog Tryz.f3 false true false false W args v W':=by
 have hval:∀(j:Nat) t v,Tryz.f3.params[j]?=some t→args[j]?=some v→Value.okWide Tryz.prog W .any base t v:=hval0
 have hW':=hW
 obtain⟨p,q,hA0,hV,rfl,hfz,hnd⟩:=hW
 have hA:DataW.TrodAll enc Tryz.prog W 0 (fun _=> true) true Tryz.f3.params.toList args.toList ds p:=hA0
 rw[Tryz.params3] at hA hval
 obtain⟨v0,v1,d0,d1,p0,p1,rfl,rfl,rfl,h0,h1⟩:=trodAll_two hA
 obtain⟨rfl,rfl⟩:=trodVars_none hV
 have k0:=Eq.ok22 (hval 0 22 v0 rfl rfl)
 obtain⟨fs26,hu26⟩:=Eq.st26
 obtain⟨c1,rfl⟩:=Eq.okS hu26 (hval 1 26 v1 rfl rfl)
 have hb:Rows.uptoBulkAll ([d0,d1]++[])≤1048576:=of_decide_eq_true hk
 simp only[Rows.uptoBulkAll,List.append_nil] at hb
 obtain⟨env,e1,e2,e3,e4⟩:=Eq.in_env (show Rows.uptoBulk d0≤Eq.M by show _≤1048576;omega) h0 k0
 obtain⟨t,t1,t2,t3,t4⟩:=Eq.in_term (show Rows.uptoBulk d1≤Eq.M by show _≤1048576;omega) h1
 clear hA0 hval0
 simp only[List.append_nil] at hW'
 refine(Eq.calls_true (n:=3) (l:=[env,.agg t]) (W:=W) (args:=#[v0,.agg c1]) (Eq.law e1 t1 e2 t2 ⟨Eq.mes_env e1 e3,Eq.mes_term t3,Eq.mes_term t3⟩) ?_).mono fun e W' ⟨he,hB⟩=> ?_
 ·simp only[vrl]
  exact⟨_,_,rfl,e4,_,_,rfl,t4,rfl⟩
 subst he
 have hlt:∀x∈p0++p1,x.block < W.heap.size:=fun x hx=> hW'.lt x hx
 have l0:∀x∈p0,x.block < W.heap.size:=fun x hx=> hlt x (by simp[hx])
 have l1:∀x∈p1,x.block < W.heap.size:=fun x hx=> hlt x (by simp[hx])
 exact⟨_,rfl,[d0,d1],[],p0++p1,[],p0++p1,[],hW',trodAll_mk1 (shut_bool Eq.u4 true),trodAll_mk2
  (WideElems.Trod_stays Tryz.laidOut Eq.rr22 (Nat.lt_trans (by decide) Eq.tn26) h0 (fun x hx=> hB.same (l0 x hx)) fun x hx=> decide_eq_true (l0 x hx))
  (WideElems.Trod_stays Tryz.laidOut Eq.rr26 Eq.tn26 h1 (fun x hx=> hB.same (l1 x hx)) fun x hx=> decide_eq_true (l1 x hx)),rfl,hB.frame _,fun h=> by cases h⟩
set_option maxRecDepth 100000 in
theorem Z2i (os:Os) (started:os.Started) (H:Type) (enc:TypeId×Value→H) (F:Stop.Interp):
 ReturnsInHanded {} Tryz.checked os 3 .any ((Rows.OpenSpec.upto Rows.rewriteEquationsSpec).pre6 enc Tryz.prog Tryz.f3 Rows.rewriteEquationsUptoRow.domain false) (((Rows.OpenSpec.upto Rows.rewriteEquationsSpec).at F).post enc Tryz.prog Tryz.f3 false true false false):=by
 refine returnsInHanded_of_cond (C:=Tryz.checked) (s:=Rows.OpenSpec.upto Rows.rewriteEquationsSpec) (k:=Rows.uptoSmall) rfl Tryz.own started (by kernel_rfl) Tryz.func3
  (OpenSpec.witness (enc:=enc) (C:=Tryz.checked) (s:=Rows.OpenSpec.upto Rows.rewriteEquationsSpec) (k:=Rows.uptoSmall) rfl false ⟨#[],#[.slice none 0 0,.agg #[.int .i64 0,.int .i64 0,.string .empty,.slice none 0 0,.slice none 0 0]],[]⟩ 8 (by kernel_rfl) (by kernel_rfl) (by kernel_rfl)
   (x:=([.nil,.agg [.lit (.int .i64 0),.lit (.int .i64 0),.lit (.string []),.nil,.nil]],[],[])) (by kernel_rfl) rfl (by kernel_rfl)) ?_
 intro W base args ds gs before hval hW _ hk _
 exact Eq.contract H enc W base args ds gs before hval hW hk
theorem rewriteEquations_holds:Rows.RewriteEquationsUptoSaid:=
 OpenClaim.holds_of_cond 3 Tryz.f3 rfl rfl rfl rfl rfl rfl rfl ⟨rfl,rfl,rfl,rfl,rfl⟩ rfl rfl rfl rfl rfl (by kernel_rfl) Tryz.func3 zW8
  (of_decide_eq_true (by kernel_rfl)) (by unfold Func.isWrapper;first|(rw[if_pos (by decide+kernel)];kernel_rfl)|(rw[if_neg (by decide+kernel)];exact⟨rfl,rfl⟩))
  (fun os started H enc _ F=> Z2i os started H enc F)
#print axioms rewriteEquations_holds
end Go.Proofs.YtapdblnejhijnaaGreat
end
