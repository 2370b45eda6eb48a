/- In an interpretation in which the merges hold, equivalent terms have the same value: for every input the statement CongruenceSound returns true, and leaves its input as it was. No condition. -/
import Derived.Test.YtdlaladdeelegaaGreatF6
import Derived.Test.YtdlaladdeelegaaGreatF7
set_option linter.all false
set_option maxRecDepth 100000
namespace Go.Proofs.YtdlaladdeelegaaGreat
open Go Go.Ae Go.ChangeShapes Go.WideShapes Go.ChangeAt Go.RowKit
theorem Tryz.own:ownKnob Tryz.prog.godebug=none:=by kernel_rfl
theorem Tryz.laidOut:laidOutB Tryz.prog=true:=zNB
theorem Cg.rr24:Tryz.prog.readableRec 24=true:=by kernel_rfl
theorem Cg.tn24:24 < Tryz.prog.types.size:=of_decide_eq_true (by kernel_rfl)
theorem Cg.u43:Tryz.prog.underlying 43=some (.array 16 5):=by kernel_rfl
theorem Cg.u5:Tryz.prog.underlying 5=some (.int .u8):=by kernel_rfl
theorem Cg.s45:Cg.structTypes Tryz.prog 45=some [43,43]:=by kernel_rfl
def Cg.plainM:List TypeId:=[45,43,5,24,22,42,3]
theorem Cg.Zgl:plainTs Tryz.prog Cg.plainM=true:=by kernel_rfl
theorem Cg.rr45:Tryz.prog.readableRec 45=true:=by kernel_rfl
theorem Cg.tn45:45 < Tryz.prog.types.size:=of_decide_eq_true (by kernel_rfl)
theorem Cg.Zgh:∀(n:Nat) (cs:List V),TyE Tryz.prog 5 n cs→∃l:List Nat,cs=Cg.u8s l∧l.length=n∧∀a∈l,a < 256:=by
 intro n
 induction n with
 |zero=> intro cs h;cases h;exact ⟨[],rfl,rfl,fun a ha=> by cases ha⟩
 |succ n ih=>
  intro cs h
  cases h with
  |cons h ht=>
   obtain ⟨z,rfl,hz⟩:=Cg.zC8 Cg.u5 h
   obtain ⟨l,rfl,rfl,hl⟩:=ih _ ht
   have hb:0≤z∧z < 256:=by
    have h1:IntKind.u8.min=0:=rfl
    have h2:IntKind.u8.max=255:=rfl
    simp only [Lit.wf,decide_eq_true_eq,Bool.and_eq_true] at hz
    omega
   refine ⟨z.toNat::l,?_,rfl,fun a ha=> ?_⟩
   ·show V.int .u8 z::Cg.u8s l=V.int .u8 ((z.toNat:Nat):Int)::Cg.u8s l
    rw [Int.toNat_of_nonneg hb.1]
   ·rcases List.mem_cons.1 ha with rfl|ha
    ·omega
    ·exact hl a ha
theorem Cg.Zgz {cells:List V} (h:Ty Tryz.prog 45 cells):∃M:List Nat,cells=Cg.u8s M∧M.length=32∧∀a∈M,a < 256:=by
 cases Cg.zZh Cg.s45 h with
 |cons h1 h2=> cases h2 with
  |cons h3 h4=>
   cases h4
   obtain ⟨l,rfl,hl,hl'⟩:=Cg.Zgh 16 _ (Cg.zZd Cg.u43 h1)
   obtain ⟨k,rfl,hk,hk'⟩:=Cg.Zgh 16 _ (Cg.zZd Cg.u43 h3)
   refine ⟨l++k,?_,by rw [List.length_append];omega,fun a ha=> ?_⟩
   ·rw [List.append_nil];unfold Cg.u8s;rw [List.map_append]
   ·rcases List.mem_append.1 ha with ha|ha
    ·exact hl' a ha
    ·exact hk' a ha
theorem Cg.st45:∃fs,Tryz.prog.underlying 45=some (.struct fs):=by
 have h:(match Tryz.prog.underlying 45 with|some (.struct _)=> true|_=> false)=true:=by kernel_rfl
 split at h
 ·rename_i fs hu;exact ⟨fs,hu⟩
 ·cases h
section
variable {H:Type} {enc:TypeId×Value→H} {W:World} {base:Nat}
theorem Cg.zQ8 {t:TypeId} {cs:Array Value} {d:DataW H} {p:List MemPlace} (ht:t∈Cg.plainM) (h:DataW.Trod enc Tryz.prog W base (fun _=> true) true t (.agg cs) d p):
 ∃vs,Ty Tryz.prog t vs∧vr (World.imm W) At.bot (.agg vs) (.agg cs):=by
 obtain ⟨fuel,h⟩:=h
 obtain ⟨vs,h1,h2,_⟩:=zOX Cg.Zgl fuel t ht _ _ h
 refine ⟨vs,h1,?_⟩
 simp only [vr]
 exact ⟨cs,rfl,h2⟩
end
theorem Cg.st24:∃fs,Tryz.prog.underlying 24=some (.struct fs):=by
 have h:(match Tryz.prog.underlying 24 with|some (.struct _)=> true|_=> false)=true:=by kernel_rfl
 split at h
 ·rename_i fs hu;exact ⟨fs,hu⟩
 ·cases h
theorem Cg.okS {W:World} {r:Reach} {base:Nat} {t:TypeId} {v:Value} {fs:Array Field} (hu:Tryz.prog.underlying t=some (.struct fs)) (h:Value.okWide Tryz.prog W r base t v):∃cs,v=.agg cs:=by
 simp only [Value.okWide,hu] at h
 obtain ⟨cs,h,_⟩:=h
 exact ⟨cs,h⟩
set_option maxRecDepth 100000 in
theorem Zgj (os:Os) (started:os.Started) (H:Type) (enc:TypeId×Value→H):
 ReturnsInHanded {} Tryz.checked os 6 .any (Rows.congruenceSoundSpec.pre6 enc Tryz.prog Tryz.f6 Rows.congruenceSoundRow.domain false) (Rows.congruenceSoundSpec.post enc Tryz.prog Tryz.f6 false true false false):=by
 refine returnsInHanded_of_change (C:=Tryz.checked) Tryz.own started (by kernel_rfl) Tryz.func6
  (ChangeSpec.witness6 (enc:=enc) (C:=Tryz.checked) false ⟨#[],#[.agg #[.int .i64 0,.slice none 0 0,.slice none 0 0],.agg #[.int .u8 0,.int .u8 0,.int .u8 0,.int .u8 0,.int .u8 0,.int .u8 0,.int .u8 0,.int .u8 0,.int .u8 0,.int .u8 0,.int .u8 0,.int .u8 0,.int .u8 0,.int .u8 0,.int .u8 0,.int .u8 0,.int .u8 0,.int .u8 0,.int .u8 0,.int .u8 0,.int .u8 0,.int .u8 0,.int .u8 0,.int .u8 0,.int .u8 0,.int .u8 0,.int .u8 0,.int .u8 0,.int .u8 0,.int .u8 0,.int .u8 0,.int .u8 0]],[]⟩ 8 (by kernel_rfl) (by kernel_rfl) (by kernel_rfl) (by kernel_rfl)) ?_
 intro W base args ds gs before hval0 hW hcnd _
 have hval:∀(j:Nat) t v,Tryz.f6.params[j]?=some t→args[j]?=some v→Value.okWide Tryz.prog W .any base t v:=hval0
 have hW':=hW
 obtain ⟨p,q,hA0,hV,rfl,hfz,hnd⟩:=hW
 have hA:DataW.TrodAll enc Tryz.prog W 0 (fun _=> true) true Tryz.f6.params.toList args.toList ds p:=hA0
 rw [Tryz.params6] at hA hval
 obtain ⟨v0,v1,d0,d1,p0,p1,rfl,rfl,rfl,h0,h1⟩:=trodAll_two hA
 obtain ⟨rfl,rfl⟩:=trodVars_none hV
 obtain ⟨fs24,hu24⟩:=Cg.st24
 obtain ⟨fs45,hu45⟩:=Cg.st45
 obtain ⟨c0,rfl⟩:=Cg.okS hu24 (hval 0 24 v0 rfl rfl)
 obtain ⟨c1,rfl⟩:=Cg.okS hu45 (hval 1 45 v1 rfl rfl)
 obtain ⟨vs0,t0,r0⟩:=Cg.zQ8 (by decide) h0
 obtain ⟨vs1,t1,r1⟩:=Cg.zQ8 (by decide) h1
 obtain ⟨t,av,mv,la,lm,rfl,hA1,hM1⟩:=Cg.zZf t0
 obtain ⟨M,rfl,hM,hM8⟩:=Cg.Zgz t1
 clear hA0 hval0
 simp only [List.append_nil] at hW'
 refine (Cg.zPQ (n:=6) (l:=[.agg [.int .i64 t,av,mv],.agg (Cg.u8s M)]) (W:=W) (args:=#[.agg c0,.agg c1]) (Cg.sound (t:=t) hA1 hM1 hM hM8) ?_).mono fun e W' ⟨he,hB⟩=> ?_
 ·simp only [vrl]
  exact ⟨_,_,rfl,r0,_,_,rfl,r1,rfl⟩
 subst he
 have hlt:∀x∈p0++p1,x.block < W.heap.size:=fun x hx=> hW'.lt x hx
 have l0:∀x∈p0,x.block < W.heap.size:=fun x hx=> hlt x (by simp [hx])
 have l1:∀x∈p1,x.block < W.heap.size:=fun x hx=> hlt x (by simp [hx])
 refine ⟨_,rfl,[d0,d1],[],p0++p1,[],p0++p1,[],hW',trodAll_mk1 (shut_bool Cg.u4 true),trodAll_mk2
  (WideElems.Trod_stays Tryz.laidOut Cg.rr24 Cg.tn24 h0 (fun x hx=> hB.same (l0 x hx)) fun x hx=> decide_eq_true (l0 x hx))
  (WideElems.Trod_stays Tryz.laidOut Cg.rr45 Cg.tn45 h1 (fun x hx=> hB.same (l1 x hx)) fun x hx=> decide_eq_true (l1 x hx)),rfl,hB.frame _,fun h=> by cases h⟩
theorem congruenceSound_holds:Rows.CongruenceSoundSaid:=
 OpenClaim.holds_of_wide 6 Tryz.f6 rfl rfl rfl rfl rfl rfl rfl ⟨rfl,rfl,rfl,rfl,rfl⟩ rfl rfl rfl rfl rfl (by kernel_rfl) Tryz.func6 zW8
  (of_decide_eq_true (by kernel_rfl)) (by unfold Func.isWrapper;first|(rw [if_pos (by decide+kernel)];kernel_rfl)|(rw [if_neg (by decide+kernel)];exact ⟨rfl,rfl⟩))
  (fun os started H enc _=> Zgj os started H enc)
#print axioms congruenceSound_holds
end Go.Proofs.YtdlaladdeelegaaGreat
