/- Explain returns irredundant merges that suffice, exactly if the closure contains the pair, and otherwise false or the error of the reference: for every input the statement CongruenceExplains returns true, and leaves its input as it was. No condition. -/
import Derived.Test.YtdlaladdeelegaaGreatF6
import Derived.Test.YtdlaladdeelegaaGreatF7
set_option linter.all false
noncomputable section
set_option maxRecDepth 100000
namespace Go.Proofs.YtdlaladdeelegaaGreat
open Go Go.Ae Go.ChangeShapes Go.WideShapes Go.ChangeAt Go.RowKit
theorem Tryz.own:ownKnob Tryz.prog.godebug=none:=by kernel_rfl
theorem Tryz.laidOut:laidOutB Tryz.prog=true:=zNB
theorem Cg.rr24:Tryz.prog.readableRec 24=true:=by kernel_rfl
theorem Cg.tn24:24 < Tryz.prog.types.size:=of_decide_eq_true (by kernel_rfl)
theorem Cg.rr3:Tryz.prog.readableRec 3=true:=by kernel_rfl
theorem Cg.tn3:3 < Tryz.prog.types.size:=of_decide_eq_true (by kernel_rfl)
theorem Cg.ok3' {W:World} {r:Reach} {base:Nat} {v:Value} (h:Value.okWide Tryz.prog W r base 3 v):v.cells.toList=[v]:=by
 simp only[Value.okWide,Cg.u3,Cell.okWide] at h
 cases v <;> first|rfl|(simp[Cell.ok,Cg.u3] at h)
section
variable {H:Type} {enc:TypeId×Value→H} {W:World} {base:Nat}
theorem Cg.Zut {v:Value} {d:DataW H} {p:List MemPlace} (h:DataW.Trod enc Tryz.prog W base (fun _=> true) true 3 v d p) (hv:v.cells.toList=[v]):
 ∃n:Int,vr (World.imm W) At.bot (.int .i64 n) v:=by
 obtain⟨fuel,h⟩:=h
 obtain⟨vs,h1,h2,_⟩:=zOX Cg.zYn fuel 3 (by decide) _ _ h
 obtain⟨n,rfl,_⟩:=Cg.zC8 Cg.u3 h1
 rw[hv] at h2
 simp only[vrl] at h2
 obtain⟨x,xs,hx,h3,_⟩:=h2
 cases hx
 exact⟨n,h3⟩
end
section
variable {H:Type} {enc:TypeId×Value→H} {W:World} {base:Nat}
theorem Cg.zQ8 {t:TypeId} {cs:Array Value} {d:DataW H} {p:List MemPlace} (ht:t∈Cg.ZJv) (h:DataW.Trod enc Tryz.prog W base (fun _=> true) true t (.agg cs) d p):
 ∃vs,Ty Tryz.prog t vs∧vr (World.imm W) At.bot (.agg vs) (.agg cs):=by
 obtain⟨fuel,h⟩:=h
 obtain⟨vs,h1,h2,_⟩:=zOX Cg.zYn fuel t ht _ _ h
 refine⟨vs,h1,?_⟩
 simp only[vr]
 exact⟨cs,rfl,h2⟩
end
theorem Cg.st24:∃fs,Tryz.prog.underlying 24=some (.struct fs):=by
 have h:(match Tryz.prog.underlying 24 with|some (.struct _)=> true|_=> false)=true:=by kernel_rfl
 split at h
 ·rename_i fs hu;exact⟨fs,hu⟩
 ·cases h
theorem Cg.okS {W:World} {r:Reach} {base:Nat} {t:TypeId} {v:Value} {fs:Array Field} (hu:Tryz.prog.underlying t=some (.struct fs)) (h:Value.okWide Tryz.prog W r base t v):∃cs,v=.agg cs:=by
 simp only[Value.okWide,hu] at h
 obtain⟨cs,h,_⟩:=h
 exact⟨cs,h⟩
set_option maxRecDepth 100000 in
theorem ZAJ (os:Os) (started:os.Started) (H:Type) (enc:TypeId×Value→H):
 ReturnsInHanded {} Tryz.checked os 4 .any (Rows.congruenceExplainsSpec.pre6 enc Tryz.prog Tryz.f4 Rows.congruenceExplainsRow.domain false) (Rows.congruenceExplainsSpec.post enc Tryz.prog Tryz.f4 false true false false):=by
 refine returnsInHanded_of_change (C:=Tryz.checked) Tryz.own started (by kernel_rfl) Tryz.func4
  (ChangeSpec.witness6 (enc:=enc) (C:=Tryz.checked) false ⟨#[],#[.agg #[.int .i64 0,.slice none 0 0,.slice none 0 0],.int .i64 0,.int .i64 0],[]⟩ 8 (by kernel_rfl) (by kernel_rfl) (by kernel_rfl) (by kernel_rfl)) ?_
 intro W base args ds gs before hval0 hW hcnd _
 have hval:∀(j:Nat) t v,Tryz.f4.params[j]?=some t→args[j]?=some v→Value.okWide Tryz.prog W .any base t v:=hval0
 have hW':=hW
 obtain⟨p,q,hA0,hV,rfl,hfz,hnd⟩:=hW
 have hA:DataW.TrodAll enc Tryz.prog W 0 (fun _=> true) true Tryz.f4.params.toList args.toList ds p:=hA0
 rw[Tryz.params4] at hA hval
 obtain⟨v0,v1,v2,d0,d1,d2,p0,p1,p2,rfl,rfl,rfl,h0,h1,h2⟩:=trodAll_three hA
 obtain⟨rfl,rfl⟩:=trodVars_none hV
 obtain⟨fs24,hu24⟩:=Cg.st24
 obtain⟨c0,rfl⟩:=Cg.okS hu24 (hval 0 24 v0 rfl rfl)
 have k1:=Cg.ok3' (hval 1 3 v1 rfl rfl)
 have k2:=Cg.ok3' (hval 2 3 v2 rfl rfl)
 obtain⟨vs0,t0,r0⟩:=Cg.zQ8 (by decide) h0
 obtain⟨a,r1⟩:=Cg.Zut h1 k1
 obtain⟨b,r2⟩:=Cg.Zut h2 k2
 obtain⟨t,av,mv,la,lm,rfl,hA1,hM1⟩:=Cg.zZf t0
 clear hA0 hval0
 simp only[List.append_nil] at hW'
 refine(Cg.zPQ (n:=4) (l:=[.agg [.int .i64 t,av,mv],.int .i64 a,.int .i64 b]) (W:=W) (args:=#[.agg c0,v1,v2]) (Cg.ZJF (t:=t) (a:=a) (b:=b) hA1 hM1) ?_).mono fun e W' ⟨he,hB⟩=> ?_
 ·simp only[vrl]
  exact⟨_,_,rfl,r0,_,_,rfl,r1,_,_,rfl,r2,rfl⟩
 subst he
 have hlt:∀x∈p0++p1++p2,x.block < W.heap.size:=fun x hx=> hW'.lt x hx
 have l0:∀x∈p0,x.block < W.heap.size:=fun x hx=> hlt x (by simp[hx])
 have l1:∀x∈p1,x.block < W.heap.size:=fun x hx=> hlt x (by simp[hx])
 have l2:∀x∈p2,x.block < W.heap.size:=fun x hx=> hlt x (by simp[hx])
 refine⟨_,rfl,[d0,d1,d2],[],p0++p1++p2,[],p0++(p1++p2),[],hW',trodAll_mk1 (shut_bool Cg.u4 true),trodAll_mk3
  (WideElems.Trod_stays Tryz.laidOut Cg.rr24 Cg.tn24 h0 (fun x hx=> hB.same (l0 x hx)) fun x hx=> decide_eq_true (l0 x hx))
  (WideElems.Trod_stays Tryz.laidOut Cg.rr3 Cg.tn3 h1 (fun x hx=> hB.same (l1 x hx)) fun x hx=> decide_eq_true (l1 x hx))
  (WideElems.Trod_stays Tryz.laidOut Cg.rr3 Cg.tn3 h2 (fun x hx=> hB.same (l2 x hx)) fun x hx=> decide_eq_true (l2 x hx)),rfl,hB.frame _,fun h=> by cases h⟩
theorem congruenceExplains_holds:Rows.CongruenceExplainsSaid:=
 OpenClaim.holds_of_wide 4 Tryz.f4 rfl rfl rfl rfl rfl rfl rfl ⟨rfl,rfl,rfl,rfl,rfl⟩ rfl rfl rfl rfl rfl (by kernel_rfl) Tryz.func4 zW8
  (of_decide_eq_true (by kernel_rfl)) (by unfold Func.isWrapper;first|(rw[if_pos (by decide+kernel)];kernel_rfl)|(rw[if_neg (by decide+kernel)];exact⟨rfl,rfl⟩))
  (fun os started H enc _=> ZAJ os started H enc)
#print axioms congruenceExplains_holds
end Go.Proofs.YtdlaladdeelegaaGreat
end
