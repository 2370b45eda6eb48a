/- Close returns the representatives or error of the reference for every problem: for every input the statement CongruenceCloses returns true, and leaves its input as it was. No condition. -/
import Derived.Test.YtdlaladdeelegaaGreatF6
import Derived.Test.YtdlaladdeelegaaGreatF7
set_option linter.all false
set_option maxRecDepth 100000
namespace Go.Proofs.YtdlaladdeelegaaGreat
open Go Go.Ae Go.ChangeShapes Go.WideShapes Go.ChangeAt Go.RowKit
theorem Tryz.own:ownKnob Tryz.prog.godebug=none:=by kernel_rfl
theorem Tryz.laidOut:laidOutB Tryz.prog=true:=zNB
theorem Cg.rr24:Tryz.prog.readableRec 24=true:=by kernel_rfl
theorem Cg.tn24:24 < Tryz.prog.types.size:=of_decide_eq_true (by kernel_rfl)
section
variable {H:Type} {enc:TypeId×Value→H} {W:World} {base:Nat}
theorem Cg.zQ8 {t:TypeId} {cs:Array Value} {d:DataW H} {p:List MemPlace} (ht:t∈Cg.plainS) (h:DataW.Trod enc Tryz.prog W base (fun _=> true) true t (.agg cs) d p):
 ∃vs,Ty Tryz.prog t vs∧vr (World.imm W) At.bot (.agg vs) (.agg cs):=by
 obtain ⟨fuel,h⟩:=h
 obtain ⟨vs,h1,h2,_⟩:=zOX Cg.zYn fuel t ht _ _ h
 refine ⟨vs,h1,?_⟩
 simp only [vr]
 exact ⟨cs,rfl,h2⟩
end
theorem Cg.st24:∃fs,Tryz.prog.underlying 24=some (.struct fs):=by
 have h:(match Tryz.prog.underlying 24 with|some (.struct _)=> true|_=> false)=true:=by kernel_rfl
 split at h
 ·rename_i fs hu;exact ⟨fs,hu⟩
 ·cases h
theorem Cg.okS {W:World} {r:Reach} {base:Nat} {t:TypeId} {v:Value} {fs:Array Field} (hu:Tryz.prog.underlying t=some (.struct fs)) (h:Value.okWide Tryz.prog W r base t v):∃cs,v=.agg cs:=by
 simp only [Value.okWide,hu] at h
 obtain ⟨cs,h,_⟩:=h
 exact ⟨cs,h⟩
set_option maxRecDepth 100000 in
theorem zQi (os:Os) (started:os.Started) (H:Type) (enc:TypeId×Value→H):
 ReturnsInHanded {} Tryz.checked os 3 .any (Rows.congruenceClosesSpec.pre6 enc Tryz.prog Tryz.f3 Rows.congruenceClosesRow.domain false) (Rows.congruenceClosesSpec.post enc Tryz.prog Tryz.f3 false true false false):=by
 refine returnsInHanded_of_change (C:=Tryz.checked) Tryz.own started (by kernel_rfl) Tryz.func3
  (ChangeSpec.witness6 (enc:=enc) (C:=Tryz.checked) false ⟨#[],#[.agg #[.int .i64 0,.slice none 0 0,.slice none 0 0]],[]⟩ 8 (by kernel_rfl) (by kernel_rfl) (by kernel_rfl) (by kernel_rfl)) ?_
 intro W base args ds gs before hval0 hW hcnd _
 have hval:∀(j:Nat) t v,Tryz.f3.params[j]?=some t→args[j]?=some v→Value.okWide Tryz.prog W .any base t v:=hval0
 have hW':=hW
 obtain ⟨p,q,hA0,hV,rfl,hfz,hnd⟩:=hW
 have hA:DataW.TrodAll enc Tryz.prog W 0 (fun _=> true) true Tryz.f3.params.toList args.toList ds p:=hA0
 rw [Tryz.params3] at hA hval
 obtain ⟨v0,d0,rfl,rfl,h0⟩:=trodAll_one hA
 obtain ⟨rfl,rfl⟩:=trodVars_none hV
 obtain ⟨fs24,hu24⟩:=Cg.st24
 obtain ⟨c0,rfl⟩:=Cg.okS hu24 (hval 0 24 v0 rfl rfl)
 obtain ⟨vs0,t0,r0⟩:=Cg.zQ8 (by decide) h0
 obtain ⟨t,av,mv,la,lm,rfl,hA1,hM1⟩:=Cg.zZf t0
 clear hA0 hval0
 simp only [List.append_nil] at hW'
 refine (Cg.zPQ (n:=3) (l:=[.agg [.int .i64 t,av,mv]]) (W:=W) (args:=#[.agg c0]) (Cg.closes (t:=t) hA1 hM1) ?_).mono fun e W' ⟨he,hB⟩=> ?_
 ·simp only [vrl]
  exact ⟨_,_,rfl,r0,rfl⟩
 subst he
 have l0:∀x∈p,x.block < W.heap.size:=fun x hx=> hW'.lt x hx
 refine ⟨_,rfl,[d0],[],p,[],p,[],hW',trodAll_mk1 (shut_bool Cg.u4 true),trodAll_mk1
  (WideElems.Trod_stays Tryz.laidOut Cg.rr24 Cg.tn24 h0 (fun x hx=> hB.same (l0 x hx)) fun x hx=> decide_eq_true (l0 x hx)),rfl,hB.frame _,fun h=> by cases h⟩
theorem congruenceCloses_holds:Rows.CongruenceClosesSaid:=
 OpenClaim.holds_of_wide 3 Tryz.f3 rfl rfl rfl rfl rfl rfl rfl ⟨rfl,rfl,rfl,rfl,rfl⟩ rfl rfl rfl rfl rfl (by kernel_rfl) Tryz.func3 zW8
  (of_decide_eq_true (by kernel_rfl)) (by unfold Func.isWrapper;first|(rw [if_pos (by decide+kernel)];kernel_rfl)|(rw [if_neg (by decide+kernel)];exact ⟨rfl,rfl⟩))
  (fun os started H enc _=> zQi os started H enc)
#print axioms congruenceCloses_holds
end Go.Proofs.YtdlaladdeelegaaGreat
