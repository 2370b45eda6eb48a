/- Functions of terms: what they return. -/
import Derived.Test.YtapdblnejhijnaaGreatE1
set_option linter.all false
noncomputable section
namespace Go.Proofs.YtapdblnejhijnaaGreat.Eq
section
open Go Go.Ae
section
def ZZk:List VC:=[
 ⟨[(0,⟨(.sl 88 false 1048576),true⟩),(1,⟨(.sl 88 false 1048576),true⟩)],[.pr (eqQ false) [(.len 0),(.len 1),.s 2],.kb 2 true],fun l=> ZEZ (vns l),[.s 0,.s 1,(.k (.bool false))]⟩,
 ⟨[],[],(ZKC 2),[.s 0,.s 1,(.k (.int .i64 0))]⟩,
 ⟨[(0,⟨(.sl 88 false 1048576),true⟩),(1,⟨(.sl 88 false 1048576),true⟩),(4,⟨.idx,true⟩),(13,⟨.idx,true⟩)],[.pr (ZKC 2) [.s 0,.s 1,.s 4],.el 0 (.v 4) 0 6 2,.el 1 (.v 4) 0 9 2,.pr (eqQ false) [(.agg [.s 7,.s 8]),(.agg [.s 10,.s 11]),.s 12],.kb 12 false,.c (.v 13) (.v 4) 1,.c (.v 4) (.v 13) (-1)],(ZKC 2),[.s 0,.s 1,.s 13]⟩,
 ⟨[(0,⟨(.sl 88 false 1048576),true⟩),(1,⟨(.sl 88 false 1048576),true⟩),(7,⟨(.int .i64),true⟩),(8,⟨(.int .i64),true⟩),(10,⟨(.int .i64),true⟩),(11,⟨(.int .i64),true⟩)],[.el 0 (.v 4) 0 6 2,.el 1 (.v 4) 0 9 2,.pr (eqQ false) [(.agg [.s 7,.s 8]),(.agg [.s 10,.s 11]),.s 12],.kb 12 true],fun l=> ZEZ (vns l),[.s 0,.s 1,(.k (.bool false))]⟩,
 ⟨[(0,⟨(.sl 88 false 1048576),true⟩),(1,⟨(.sl 88 false 1048576),true⟩),(4,⟨.idx,true⟩)],[.c (.l 1) (.l 0) 0,.c (.l 0) (.l 1) 0,.pr (ZKC 2) [.s 0,.s 1,.s 4],.c (.l 0) (.v 4) 0],fun l=> ZEZ (vns l),[.s 0,.s 1,(.k (.bool true))]⟩]
theorem Z0v:ZGO Tryz.prog KD hint0 ZKf inl 200 (ZKw ZTG) ZTG=some ZZk:=by kernel_rfl
theorem Z28:VCs Tryz.prog KD ZZk:=by
 refine⟨fun ρ hs hf=> ?_,fun ρ hs hf=> ?_,fun ρ hs hf=> ?_,fun ρ hs hf=> ?_,fun ρ hs hf=> ?_,trivial⟩
 ·simp only[ZC8,ZCu,zy,Fact.ok,A.dens,A.den,Q.val] at hs hf⊢
  obtain⟨k0,k1, -⟩:=hs
  obtain⟨f0,f3, -⟩:=hf
  exact ZK5 (ZOL k0.1 k1.1 f0 f3)
 ·simp only[A.dens,A.den]
  exact ZQn
 ·simp only[ZC8,ZCu,zy,Fact.ok,A.dens,A.den,Q.val] at hs hf⊢
  obtain⟨k0,k1,k4,k13, -⟩:=hs
  obtain⟨f6,f20,f25,f26,f27,f28,f29, -⟩:=hf
  exact ZOJ k0.1 k1.1 f6 f20 f25 rfl rfl rfl (ZLo (congrArg dn (neF f26 f27))) k13.1 f28 f29
 ·simp only[ZC8,ZCu,zy,Fact.ok,A.dens,A.den,Q.val] at hs hf⊢
  obtain⟨k0,k1,k7,k8,k10,k11, -⟩:=hs
  obtain⟨f20,f25,f26,f27, -⟩:=hf
  exact ZK5 (ZOM k0.1 k1.1 f20 f25 rfl rfl rfl fun hh=> neT f26 f27 (by
  have hh:[dn (ρ 7),dn (ρ 8)]=[dn (ρ 10),dn (ρ 11)]:=hh
  rw[ZKA k7.1,ZKA k8.1,ZKA k10.1,ZKA k11.1] at hh
  exact congrArg V.agg hh))
 ·simp only[ZC8,ZCu,zy,Fact.ok,A.dens,A.den,Q.val] at hs hf⊢
  obtain⟨k0,k1,k4, -⟩:=hs
  obtain⟨f4,f5,f6,f15, -⟩:=hf
  exact ZRM (ZOK k0.1 k1.1 rfl f4 f5 f6 f15)
def v66:List VC:=[
 ⟨[(0,⟨(.int .i64),true⟩),(2,⟨(.int .i64),true⟩)],[.pr (eqQ true) [.s 0,.s 2,.s 4],.kb 4 true,.pr (fun l=> ZEZ (vns l)) [.s 1,.s 3,.s 5]],fun l=> ZEZ (vns l),[(.agg [.s 0,.s 1]),(.agg [.s 2,.s 3]),.s 5]⟩,
 ⟨[(0,⟨(.int .i64),true⟩),(2,⟨(.int .i64),true⟩)],[.pr (eqQ true) [.s 0,.s 2,.s 4],.kb 4 false],fun l=> ZEZ (vns l),[(.agg [.s 0,.s 1]),(.agg [.s 2,.s 3]),(.k (.bool false))]⟩]
theorem k66:ZGO Tryz.prog KD hint0 ZTX inl 200 (ZKw s66) s66=some v66:=by kernel_rfl
theorem x66:VCs Tryz.prog KD v66:=by
 refine⟨fun ρ hs hf=> ?_,fun ρ hs hf=> ?_,trivial⟩
 ·simp only[ZC8,ZCu,zy,Fact.ok,A.dens,A.den,Q.val] at hs hf⊢
  obtain⟨k0,k2, -⟩:=hs
  obtain⟨f0,f3,f6, -⟩:=hf
  have e:=eqY f0 f3
  obtain⟨r,e5,h⟩:=ZMX f6
  show ZEZ (vns [.agg [ρ 0,ρ 1],.agg [ρ 2,ρ 3],ρ 5])
  rw[e5]
  refine ZPC (h.trans ?_)
  rw[ZN9,e]
  simp
 ·simp only[ZC8,ZCu,zy,Fact.ok,A.dens,A.den,Q.val] at hs hf⊢
  obtain⟨k0,k2, -⟩:=hs
  obtain⟨f0,f3, -⟩:=hf
  exact ZK5 fun h=> eqN f0 f3 (by
  have h:=(ZN9.1 h).1
  rwa [ZKA k0.1,ZKA k2.1] at h)
def v65:List VC:=[
 ⟨[(0,⟨(.sl 53 false 1048576),true⟩),(1,⟨(.sl 53 false 1048576),true⟩)],[.pr (eqQ false) [(.len 0),(.len 1),.s 2],.kb 2 true],fun l=> ZEk (vns l),[.s 0,.s 1,(.k (.fn (.func 66) [] [])),(.k (.bool false))]⟩,
 ⟨[],[],(ZKC 2),[.s 0,.s 1,(.k (.int .i64 0))]⟩,
 ⟨[(0,⟨(.sl 53 false 1048576),true⟩),(1,⟨(.sl 53 false 1048576),true⟩),(4,⟨.idx,true⟩),(14,⟨.idx,true⟩)],[.pr (ZKC 2) [.s 0,.s 1,.s 4],.el 0 (.v 4) 0 6 2,.el 1 (.v 4) 0 9 2,.pr (fun l=> ZEZ (vns l)) [(.agg [.s 7,.s 8]),(.agg [.s 10,.s 11]),.s 12],.kb 12 true,.c (.v 14) (.v 4) 1,.c (.v 4) (.v 14) (-1)],(ZKC 2),[.s 0,.s 1,.s 14]⟩,
 ⟨[(0,⟨(.sl 53 false 1048576),true⟩),(1,⟨(.sl 53 false 1048576),true⟩)],[.el 0 (.v 4) 0 6 2,.el 1 (.v 4) 0 9 2,.pr (fun l=> ZEZ (vns l)) [(.agg [.s 7,.s 8]),(.agg [.s 10,.s 11]),.s 12],.kb 12 false],fun l=> ZEk (vns l),[.s 0,.s 1,(.k (.fn (.func 66) [] [])),(.k (.bool false))]⟩,
 ⟨[(0,⟨(.sl 53 false 1048576),true⟩),(1,⟨(.sl 53 false 1048576),true⟩),(4,⟨.idx,true⟩)],[.c (.l 1) (.l 0) 0,.c (.l 0) (.l 1) 0,.pr (ZKC 2) [.s 0,.s 1,.s 4],.c (.l 0) (.v 4) 0],fun l=> ZEk (vns l),[.s 0,.s 1,(.k (.fn (.func 66) [] [])),(.k (.bool true))]⟩]
theorem k65:ZGO Tryz.prog KD hint0 ZT8 inl 200 (ZKw s65) s65=some v65:=by kernel_rfl
theorem x65:VCs Tryz.prog KD v65:=by
 refine⟨fun ρ hs hf=> ?_,fun ρ hs hf=> ?_,fun ρ hs hf=> ?_,fun ρ hs hf=> ?_,fun ρ hs hf=> ?_,trivial⟩
 ·simp only[ZC8,ZCu,zy,Fact.ok,A.dens,A.den,Q.val] at hs hf⊢
  obtain⟨k0,k1, -⟩:=hs
  obtain⟨f0,f3, -⟩:=hf
  exact ZRL (ZOL k0.1 k1.1 f0 f3)
 ·simp only[A.dens,A.den]
  exact ZQn
 ·simp only[ZC8,ZCu,zy,Fact.ok,A.dens,A.den,Q.val] at hs hf⊢
  obtain⟨k0,k1,k4,k14, -⟩:=hs
  obtain⟨f6,f20,f25,f26,f30,f31,f32, -⟩:=hf
  exact ZOJ k0.1 k1.1 f6 f20 f25 rfl rfl rfl (ZLo (ZLD f26 f30)) k14.1 f31 f32
 ·simp only[ZC8,ZCu,zy,Fact.ok,A.dens,A.den,Q.val] at hs hf⊢
  obtain⟨k0,k1, -⟩:=hs
  obtain⟨f20,f25,f26,f30, -⟩:=hf
  exact ZRL (ZOM k0.1 k1.1 f20 f25 rfl rfl rfl fun hh=> ZLE f26 f30 (congrArg V.agg hh))
 ·simp only[ZC8,ZCu,zy,Fact.ok,A.dens,A.den,Q.val] at hs hf⊢
  obtain⟨k0,k1,k4, -⟩:=hs
  obtain⟨f4,f5,f6,f15, -⟩:=hf
  exact ZYm (ZOK k0.1 k1.1 rfl f4 f5 f6 f15)
def v67:List VC:=[
 ⟨[(0,⟨(.sl 26 false 1048576),true⟩),(1,⟨(.sl 26 false 1048576),true⟩)],[.pr (eqQ false) [(.len 0),(.len 1),.s 2],.kb 2 true],fun l=> ZEk (vns l),[.s 0,.s 1,(.k (.fn (.func 26) [] [])),(.k (.bool false))]⟩,
 ⟨[],[],(ZKC 5),[.s 0,.s 1,(.k (.int .i64 0))]⟩,
 ⟨[(0,⟨(.sl 26 false 1048576),true⟩),(1,⟨(.sl 26 false 1048576),true⟩),(4,⟨.idx,true⟩),(20,⟨.idx,true⟩)],[.pr (ZKC 5) [.s 0,.s 1,.s 4],.el 0 (.v 4) 0 6 5,.el 1 (.v 4) 0 12 5,.pr (fun l=> ZEZ (vns l)) [(.agg [.s 7,.s 8,.s 9,.s 10,.s 11]),(.agg [.s 13,.s 14,.s 15,.s 16,.s 17]),.s 18],.kb 18 true,.c (.v 20) (.v 4) 1,.c (.v 4) (.v 20) (-1)],(ZKC 5),[.s 0,.s 1,.s 20]⟩,
 ⟨[(0,⟨(.sl 26 false 1048576),true⟩),(1,⟨(.sl 26 false 1048576),true⟩)],[.el 0 (.v 4) 0 6 5,.el 1 (.v 4) 0 12 5,.pr (fun l=> ZEZ (vns l)) [(.agg [.s 7,.s 8,.s 9,.s 10,.s 11]),(.agg [.s 13,.s 14,.s 15,.s 16,.s 17]),.s 18],.kb 18 false],fun l=> ZEk (vns l),[.s 0,.s 1,(.k (.fn (.func 26) [] [])),(.k (.bool false))]⟩,
 ⟨[(0,⟨(.sl 26 false 1048576),true⟩),(1,⟨(.sl 26 false 1048576),true⟩),(4,⟨.idx,true⟩)],[.c (.l 1) (.l 0) 0,.c (.l 0) (.l 1) 0,.pr (ZKC 5) [.s 0,.s 1,.s 4],.c (.l 0) (.v 4) 0],fun l=> ZEk (vns l),[.s 0,.s 1,(.k (.fn (.func 26) [] [])),(.k (.bool true))]⟩]
theorem k67:ZGO Tryz.prog KD hint0 ZRW inl 200 [(s26,0)] s67=some v67:=by kernel_rfl
theorem x67:VCs Tryz.prog KD v67:=by
 refine⟨fun ρ hs hf=> ?_,fun ρ hs hf=> ?_,fun ρ hs hf=> ?_,fun ρ hs hf=> ?_,fun ρ hs hf=> ?_,trivial⟩
 ·simp only[ZC8,ZCu,zy,Fact.ok,A.dens,A.den,Q.val] at hs hf⊢
  obtain⟨k0,k1, -⟩:=hs
  obtain⟨f0,f3, -⟩:=hf
  exact ZRL (ZOL k0.1 k1.1 f0 f3)
 ·simp only[A.dens,A.den]
  exact ZQn
 ·simp only[ZC8,ZCu,zy,Fact.ok,A.dens,A.den,Q.val] at hs hf⊢
  obtain⟨k0,k1,k4,k20, -⟩:=hs
  obtain⟨f6,f26,f37,f38,f42,f43,f44, -⟩:=hf
  exact ZOJ k0.1 k1.1 f6 f26 f37 rfl rfl rfl (ZLo (ZLD f38 f42)) k20.1 f43 f44
 ·simp only[ZC8,ZCu,zy,Fact.ok,A.dens,A.den,Q.val] at hs hf⊢
  obtain⟨k0,k1, -⟩:=hs
  obtain⟨f26,f37,f38,f42, -⟩:=hf
  exact ZRL (ZOM k0.1 k1.1 f26 f37 rfl rfl rfl fun hh=> ZLE f38 f42 (congrArg V.agg hh))
 ·simp only[ZC8,ZCu,zy,Fact.ok,A.dens,A.den,Q.val] at hs hf⊢
  obtain⟨k0,k1,k4, -⟩:=hs
  obtain⟨f4,f5,f6,f15, -⟩:=hf
  exact ZYm (ZOK k0.1 k1.1 rfl f4 f5 f6 f15)
def v26:List VC:=[
 ⟨[(0,⟨(.int .i64),true⟩),(1,⟨(.int .i64),true⟩),(2,⟨(.str 1048576),true⟩),(5,⟨(.int .i64),true⟩),(6,⟨(.int .i64),true⟩),(7,⟨(.str 1048576),true⟩)],[.pr (eqQ true) [.s 0,.s 5,.s 10],.kb 10 true,.pr (eqQ true) [.s 1,.s 6,.s 11],.kb 11 true,.pr (eqQ true) [.s 2,.s 7,.s 12],.kb 12 true,.pr (fun l=> ZEk (vns l)) [.s 3,.s 8,(.k (.fn (.func 66) [] [])),.s 13],.kb 13 true,.pr (fun l=> ZEk (vns l)) [.s 4,.s 9,(.k (.fn (.func 26) [] [])),.s 14]],fun l=> ZEZ (vns l),[(.agg [.s 0,.s 1,.s 2,.s 3,.s 4]),(.agg [.s 5,.s 6,.s 7,.s 8,.s 9]),.s 14]⟩,
 ⟨[],[.pr (fun l=> ZEk (vns l)) [.s 3,.s 8,(.k (.fn (.func 66) [] [])),.s 13],.kb 13 false],fun l=> ZEZ (vns l),[(.agg [.s 0,.s 1,.s 2,.s 3,.s 4]),(.agg [.s 5,.s 6,.s 7,.s 8,.s 9]),(.k (.bool false))]⟩,
 ⟨[(2,⟨(.str 1048576),true⟩),(7,⟨(.str 1048576),true⟩)],[.pr (eqQ true) [.s 2,.s 7,.s 12],.kb 12 false],fun l=> ZEZ (vns l),[(.agg [.s 0,.s 1,.s 2,.s 3,.s 4]),(.agg [.s 5,.s 6,.s 7,.s 8,.s 9]),(.k (.bool false))]⟩,
 ⟨[(1,⟨(.int .i64),true⟩),(6,⟨(.int .i64),true⟩)],[.pr (eqQ true) [.s 1,.s 6,.s 11],.kb 11 false],fun l=> ZEZ (vns l),[(.agg [.s 0,.s 1,.s 2,.s 3,.s 4]),(.agg [.s 5,.s 6,.s 7,.s 8,.s 9]),(.k (.bool false))]⟩,
 ⟨[(0,⟨(.int .i64),true⟩),(5,⟨(.int .i64),true⟩)],[.pr (eqQ true) [.s 0,.s 5,.s 10],.kb 10 false],fun l=> ZEZ (vns l),[(.agg [.s 0,.s 1,.s 2,.s 3,.s 4]),(.agg [.s 5,.s 6,.s 7,.s 8,.s 9]),(.k (.bool false))]⟩]
theorem k26:ZGO Tryz.prog KD hint0 ZRW inl 200 [(s26,0),(s67,1)] s26=some v26:=by kernel_rfl
theorem x26:VCs Tryz.prog KD v26:=by
 refine⟨fun ρ hs hf=> ?_,fun ρ hs hf=> ?_,fun ρ hs hf=> ?_,fun ρ hs hf=> ?_,fun ρ hs hf=> ?_,trivial⟩
 ·simp only[ZC8,ZCu,zy,Fact.ok,A.dens,A.den,Q.val] at hs hf⊢
  obtain⟨k0,k1,k2,k5,k6,k7, -⟩:=hs
  obtain⟨f0,f3,f6,f9,f12,f13,f14,f15,f16, -⟩:=hf
  have e0:=eqY f0 f3
  have e1:=eqY f6 f9
  have e2:=eqY f12 f13
  have e3:=Z2q f14 f15
  obtain⟨r,e5,h⟩:=ZTL f16
  show ZEZ (vns [.agg [ρ 0,ρ 1,ρ 2,ρ 3,ρ 4],.agg [ρ 5,ρ 6,ρ 7,ρ 8,ρ 9],ρ 14])
  rw[e5]
  refine ZPC (h.trans ?_)
  rw[ZLw,e0,e1,e2,e3]
  simp
 ·simp only[zy,Fact.ok,A.dens,A.den,Q.val] at hf⊢
  obtain⟨f14,f15, -⟩:=hf
  exact ZK5 fun h=> Z2r f14 f15 (ZLw.1 h).2.2.2.1
 ·simp only[ZC8,ZCu,zy,Fact.ok,A.dens,A.den,Q.val] at hs hf⊢
  obtain⟨k2,k7, -⟩:=hs
  obtain⟨f12,f13, -⟩:=hf
  exact ZK5 fun h=> eqN f12 f13 (by
  have h:=(ZLw.1 h).2.2.1
  rwa [ZMk k2.1,ZMk k7.1] at h)
 ·simp only[ZC8,ZCu,zy,Fact.ok,A.dens,A.den,Q.val] at hs hf⊢
  obtain⟨k1,k6, -⟩:=hs
  obtain⟨f6,f9, -⟩:=hf
  exact ZK5 fun h=> eqN f6 f9 (by
  have h:=(ZLw.1 h).2.1
  rwa [ZKA k1.1,ZKA k6.1] at h)
 ·simp only[ZC8,ZCu,zy,Fact.ok,A.dens,A.den,Q.val] at hs hf⊢
  obtain⟨k0,k5, -⟩:=hs
  obtain⟨f0,f3, -⟩:=hf
  exact ZK5 fun h=> eqN f0 f3 (by
  have h:=(ZLw.1 h).1
  rwa [ZKA k0.1,ZKA k5.1] at h)
def v75:List VC:=[
 ⟨[(0,⟨(.int .i64),true⟩),(2,⟨(.int .i64),true⟩)],[.pr (eqQ false) [.s 0,.s 2,.s 4],.kb 4 true],fun l=> ZEZ (vns l),[(.agg [.s 0,.s 1]),(.agg [.s 2,.s 3]),(.k (.bool false))]⟩,
 ⟨[(1,⟨(.sl 88 false 1048576),true⟩),(3,⟨(.sl 88 false 1048576),true⟩)],[.pr (eqQ false) [(.len 1),(.len 3),.s 5],.kb 5 true],fun l=> ZEZ (vns l),[(.agg [.s 0,.s 1]),(.agg [.s 2,.s 3]),(.k (.bool false))]⟩,
 ⟨[],[],(ZLA 1 2),[(.agg [.s 0,.s 1]),(.agg [.s 2,.s 3]),(.k (.int .i64 0))]⟩,
 ⟨[(1,⟨(.sl 88 false 1048576),true⟩),(3,⟨(.sl 88 false 1048576),true⟩),(7,⟨.idx,true⟩),(16,⟨.idx,true⟩)],[.pr (ZLA 1 2) [(.agg [.s 0,.s 1]),(.agg [.s 2,.s 3]),.s 7],.el 1 (.v 7) 0 9 2,.el 3 (.v 7) 0 12 2,.pr (eqQ false) [(.agg [.s 10,.s 11]),(.agg [.s 13,.s 14]),.s 15],.kb 15 false,.c (.v 16) (.v 7) 1,.c (.v 7) (.v 16) (-1)],(ZLA 1 2),[(.agg [.s 0,.s 1]),(.agg [.s 2,.s 3]),.s 16]⟩,
 ⟨[(1,⟨(.sl 88 false 1048576),true⟩),(3,⟨(.sl 88 false 1048576),true⟩),(10,⟨(.int .i64),true⟩),(11,⟨(.int .i64),true⟩),(13,⟨(.int .i64),true⟩),(14,⟨(.int .i64),true⟩)],[.el 1 (.v 7) 0 9 2,.el 3 (.v 7) 0 12 2,.pr (eqQ false) [(.agg [.s 10,.s 11]),(.agg [.s 13,.s 14]),.s 15],.kb 15 true],fun l=> ZEZ (vns l),[(.agg [.s 0,.s 1]),(.agg [.s 2,.s 3]),(.k (.bool false))]⟩,
 ⟨[(0,⟨(.int .i64),true⟩),(1,⟨(.sl 88 false 1048576),true⟩),(2,⟨(.int .i64),true⟩),(3,⟨(.sl 88 false 1048576),true⟩),(7,⟨.idx,true⟩)],[.pr (eqQ false) [.s 0,.s 2,.s 4],.kb 4 false,.c (.l 3) (.l 1) 0,.c (.l 1) (.l 3) 0,.pr (ZLA 1 2) [(.agg [.s 0,.s 1]),(.agg [.s 2,.s 3]),.s 7],.c (.l 1) (.v 7) 0],fun l=> ZEZ (vns l),[(.agg [.s 0,.s 1]),(.agg [.s 2,.s 3]),(.k (.bool true))]⟩]
theorem k75:ZGO Tryz.prog KD hint0 ZUf inl 200 (ZKw s75) s75=some v75:=by kernel_rfl
theorem x75:VCs Tryz.prog KD v75:=by
 refine⟨fun ρ hs hf=> ?_,fun ρ hs hf=> ?_,fun ρ hs hf=> ?_,fun ρ hs hf=> ?_,fun ρ hs hf=> ?_,fun ρ hs hf=> ?_,trivial⟩
 ·simp only[ZC8,ZCu,zy,Fact.ok,A.dens,A.den,Q.val] at hs hf⊢
  obtain⟨k0,k2, -⟩:=hs
  obtain⟨f0,f3, -⟩:=hf
  exact ZK5 fun h=> neT f0 f3 (by
  have h:=(ZN9.1 h).1
  rwa [ZKA k0.1,ZKA k2.1] at h)
 ·simp only[ZC8,ZCu,zy,Fact.ok,A.dens,A.den,Q.val] at hs hf⊢
  obtain⟨k1,k3, -⟩:=hs
  obtain⟨f6,f9, -⟩:=hf
  exact ZK5 fun h=> ZOL k1.1 k3.1 f6 f9 (ZN9.1 h).2
 ·simp only[A.dens,A.den]
  exact ZWV
 ·simp only[ZC8,ZCu,zy,Fact.ok,A.dens,A.den,Q.val] at hs hf⊢
  obtain⟨k1,k3,k7,k16, -⟩:=hs
  obtain⟨f12,f26,f31,f32,f33,f34,f35, -⟩:=hf
  exact ZWW (ZOJ k1.1 k3.1 (ZQm f12) f26 f31 rfl rfl rfl (ZLo (congrArg dn (neF f32 f33))) k16.1 f34 f35)
 ·simp only[ZC8,ZCu,zy,Fact.ok,A.dens,A.den,Q.val] at hs hf⊢
  obtain⟨k1,k3,k10,k11,k13,k14, -⟩:=hs
  obtain⟨f26,f31,f32,f33, -⟩:=hf
  exact ZK5 fun h=> ZOM k1.1 k3.1 f26 f31 rfl rfl rfl (fun hh=> neT f32 f33 (by
  have hh:[dn (ρ 10),dn (ρ 11)]=[dn (ρ 13),dn (ρ 14)]:=hh
  rw[ZKA k10.1,ZKA k11.1,ZKA k13.1,ZKA k14.1] at hh
  exact congrArg V.agg hh)) (ZN9.1 h).2
 ·simp only[ZC8,ZCu,zy,Fact.ok,A.dens,A.den,Q.val] at hs hf⊢
  obtain⟨k0,k1,k2,k3,k7, -⟩:=hs
  obtain⟨f0,f3,f10,f11,f12,f21, -⟩:=hf
  exact ZRM (ZN9.2 ⟨congrArg dn (neF f0 f3),ZOK k1.1 k3.1 rfl f10 f11 (ZQm f12) f21⟩)
def v32:List VC:=[
 ⟨[(0,⟨(.sl 53 false 1048576),true⟩),(1,⟨(.sl 53 false 1048576),true⟩)],[.pr (eqQ false) [(.len 0),(.len 1),.s 2],.kb 2 true],fun l=> ZEZ (vns l),[.s 0,.s 1,(.k (.bool false))]⟩,
 ⟨[],[],(ZKC 2),[.s 0,.s 1,(.k (.int .i64 0))]⟩,
 ⟨[(0,⟨(.sl 53 false 1048576),true⟩),(1,⟨(.sl 53 false 1048576),true⟩),(4,⟨.idx,true⟩),(14,⟨.idx,true⟩)],[.pr (ZKC 2) [.s 0,.s 1,.s 4],.el 0 (.v 4) 0 6 2,.el 1 (.v 4) 0 9 2,.pr (fun l=> ZEZ (vns l)) [(.agg [.s 7,.s 8]),(.agg [.s 10,.s 11]),.s 12],.kb 12 true,.c (.v 14) (.v 4) 1,.c (.v 4) (.v 14) (-1)],(ZKC 2),[.s 0,.s 1,.s 14]⟩,
 ⟨[(0,⟨(.sl 53 false 1048576),true⟩),(1,⟨(.sl 53 false 1048576),true⟩)],[.el 0 (.v 4) 0 6 2,.el 1 (.v 4) 0 9 2,.pr (fun l=> ZEZ (vns l)) [(.agg [.s 7,.s 8]),(.agg [.s 10,.s 11]),.s 12],.kb 12 false],fun l=> ZEZ (vns l),[.s 0,.s 1,(.k (.bool false))]⟩,
 ⟨[(0,⟨(.sl 53 false 1048576),true⟩),(1,⟨(.sl 53 false 1048576),true⟩),(4,⟨.idx,true⟩)],[.c (.l 1) (.l 0) 0,.c (.l 0) (.l 1) 0,.pr (ZKC 2) [.s 0,.s 1,.s 4],.c (.l 0) (.v 4) 0],fun l=> ZEZ (vns l),[.s 0,.s 1,(.k (.bool true))]⟩]
theorem k32:ZGO Tryz.prog KD hint0 ZUg inl 200 (ZKw s32) s32=some v32:=by kernel_rfl
theorem x32:VCs Tryz.prog KD v32:=by
 refine⟨fun ρ hs hf=> ?_,fun ρ hs hf=> ?_,fun ρ hs hf=> ?_,fun ρ hs hf=> ?_,fun ρ hs hf=> ?_,trivial⟩
 ·simp only[ZC8,ZCu,zy,Fact.ok,A.dens,A.den,Q.val] at hs hf⊢
  obtain⟨k0,k1, -⟩:=hs
  obtain⟨f0,f3, -⟩:=hf
  exact ZK5 (ZOL k0.1 k1.1 f0 f3)
 ·simp only[A.dens,A.den]
  exact ZQn
 ·simp only[ZC8,ZCu,zy,Fact.ok,A.dens,A.den,Q.val] at hs hf⊢
  obtain⟨k0,k1,k4,k14, -⟩:=hs
  obtain⟨f6,f20,f25,f26,f30,f31,f32, -⟩:=hf
  exact ZOJ k0.1 k1.1 f6 f20 f25 rfl rfl rfl (ZLo (ZLD f26 f30)) k14.1 f31 f32
 ·simp only[ZC8,ZCu,zy,Fact.ok,A.dens,A.den,Q.val] at hs hf⊢
  obtain⟨k0,k1, -⟩:=hs
  obtain⟨f20,f25,f26,f30, -⟩:=hf
  exact ZK5 (ZOM k0.1 k1.1 f20 f25 rfl rfl rfl fun hh=> ZLE f26 f30 (congrArg V.agg hh))
 ·simp only[ZC8,ZCu,zy,Fact.ok,A.dens,A.den,Q.val] at hs hf⊢
  obtain⟨k0,k1,k4, -⟩:=hs
  obtain⟨f4,f5,f6,f15, -⟩:=hf
  exact ZRM (ZOK k0.1 k1.1 rfl f4 f5 f6 f15)
def v9:List VC:=[
 ⟨[(0,⟨(.int .i64),true⟩),(5,⟨(.int .i64),true⟩)],[.pr (eqQ false) [.s 0,.s 5,.s 10],.kb 10 true],fun l=> ZEZ (vns l),[(.agg [.s 0,.s 1,.s 2,.s 3,.s 4]),(.agg [.s 5,.s 6,.s 7,.s 8,.s 9]),(.k (.bool false))]⟩,
 ⟨[(1,⟨(.int .i64),true⟩),(6,⟨(.int .i64),true⟩)],[.pr (eqQ false) [.s 1,.s 6,.s 11],.kb 11 true],fun l=> ZEZ (vns l),[(.agg [.s 0,.s 1,.s 2,.s 3,.s 4]),(.agg [.s 5,.s 6,.s 7,.s 8,.s 9]),(.k (.bool false))]⟩,
 ⟨[(2,⟨(.str 1048576),true⟩),(7,⟨(.str 1048576),true⟩)],[.pr (eqQ false) [.s 2,.s 7,.s 12],.kb 12 true],fun l=> ZEZ (vns l),[(.agg [.s 0,.s 1,.s 2,.s 3,.s 4]),(.agg [.s 5,.s 6,.s 7,.s 8,.s 9]),(.k (.bool false))]⟩,
 ⟨[],[.pr (fun l=> ZEZ (vns l)) [.s 3,.s 8,.s 13],.kb 13 false],fun l=> ZEZ (vns l),[(.agg [.s 0,.s 1,.s 2,.s 3,.s 4]),(.agg [.s 5,.s 6,.s 7,.s 8,.s 9]),(.k (.bool false))]⟩,
 ⟨[(4,⟨(.sl 26 false 1048576),true⟩),(9,⟨(.sl 26 false 1048576),true⟩)],[.pr (eqQ false) [(.len 4),(.len 9),.s 15],.kb 15 true],fun l=> ZEZ (vns l),[(.agg [.s 0,.s 1,.s 2,.s 3,.s 4]),(.agg [.s 5,.s 6,.s 7,.s 8,.s 9]),(.k (.bool false))]⟩,
 ⟨[],[],(ZLA 4 5),[(.agg [.s 0,.s 1,.s 2,.s 3,.s 4]),(.agg [.s 5,.s 6,.s 7,.s 8,.s 9]),(.k (.int .i64 0))]⟩,
 ⟨[(4,⟨(.sl 26 false 1048576),true⟩),(9,⟨(.sl 26 false 1048576),true⟩),(17,⟨.idx,true⟩),(33,⟨.idx,true⟩)],[.pr (ZLA 4 5) [(.agg [.s 0,.s 1,.s 2,.s 3,.s 4]),(.agg [.s 5,.s 6,.s 7,.s 8,.s 9]),.s 17],.el 4 (.v 17) 0 19 5,.el 9 (.v 17) 0 25 5,.pr (fun l=> ZEZ (vns l)) [(.agg [.s 20,.s 21,.s 22,.s 23,.s 24]),(.agg [.s 26,.s 27,.s 28,.s 29,.s 30]),.s 31],.kb 31 true,.c (.v 33) (.v 17) 1,.c (.v 17) (.v 33) (-1)],(ZLA 4 5),[(.agg [.s 0,.s 1,.s 2,.s 3,.s 4]),(.agg [.s 5,.s 6,.s 7,.s 8,.s 9]),.s 33]⟩,
 ⟨[(4,⟨(.sl 26 false 1048576),true⟩),(9,⟨(.sl 26 false 1048576),true⟩)],[.el 4 (.v 17) 0 19 5,.el 9 (.v 17) 0 25 5,.pr (fun l=> ZEZ (vns l)) [(.agg [.s 20,.s 21,.s 22,.s 23,.s 24]),(.agg [.s 26,.s 27,.s 28,.s 29,.s 30]),.s 31],.kb 31 false],fun l=> ZEZ (vns l),[(.agg [.s 0,.s 1,.s 2,.s 3,.s 4]),(.agg [.s 5,.s 6,.s 7,.s 8,.s 9]),(.k (.bool false))]⟩,
 ⟨[(0,⟨(.int .i64),true⟩),(1,⟨(.int .i64),true⟩),(2,⟨(.str 1048576),true⟩),(4,⟨(.sl 26 false 1048576),true⟩),(5,⟨(.int .i64),true⟩),(6,⟨(.int .i64),true⟩),(7,⟨(.str 1048576),true⟩),(9,⟨(.sl 26 false 1048576),true⟩),(17,⟨.idx,true⟩)],[.pr (eqQ false) [.s 0,.s 5,.s 10],.kb 10 false,.pr (eqQ false) [.s 1,.s 6,.s 11],.kb 11 false,.pr (eqQ false) [.s 2,.s 7,.s 12],.kb 12 false,.pr (fun l=> ZEZ (vns l)) [.s 3,.s 8,.s 13],.kb 13 true,.c (.l 9) (.l 4) 0,.c (.l 4) (.l 9) 0,.pr (ZLA 4 5) [(.agg [.s 0,.s 1,.s 2,.s 3,.s 4]),(.agg [.s 5,.s 6,.s 7,.s 8,.s 9]),.s 17],.c (.l 4) (.v 17) 0],fun l=> ZEZ (vns l),[(.agg [.s 0,.s 1,.s 2,.s 3,.s 4]),(.agg [.s 5,.s 6,.s 7,.s 8,.s 9]),(.k (.bool true))]⟩]
theorem k9:ZGO Tryz.prog KD hint0 ZUh inl 200 (ZKw s9) s9=some v9:=by kernel_rfl
theorem x9:VCs Tryz.prog KD v9:=by
 refine⟨fun ρ hs hf=> ?_,fun ρ hs hf=> ?_,fun ρ hs hf=> ?_,fun ρ hs hf=> ?_,fun ρ hs hf=> ?_,fun ρ hs hf=> ?_,fun ρ hs hf=> ?_,fun ρ hs hf=> ?_,fun ρ hs hf=> ?_,trivial⟩
 ·simp only[ZC8,ZCu,zy,Fact.ok,A.dens,A.den,Q.val] at hs hf⊢
  obtain⟨k0,k5, -⟩:=hs
  obtain⟨f0,f3, -⟩:=hf
  exact ZK5 fun h=> neT f0 f3 (by
  have h:=(ZLw.1 h).1
  rwa [ZKA k0.1,ZKA k5.1] at h)
 ·simp only[ZC8,ZCu,zy,Fact.ok,A.dens,A.den,Q.val] at hs hf⊢
  obtain⟨k1,k6, -⟩:=hs
  obtain⟨f6,f9, -⟩:=hf
  exact ZK5 fun h=> neT f6 f9 (by
  have h:=(ZLw.1 h).2.1
  rwa [ZKA k1.1,ZKA k6.1] at h)
 ·simp only[ZC8,ZCu,zy,Fact.ok,A.dens,A.den,Q.val] at hs hf⊢
  obtain⟨k2,k7, -⟩:=hs
  obtain⟨f12,f13, -⟩:=hf
  exact ZK5 fun h=> neT f12 f13 (by
  have h:=(ZLw.1 h).2.2.1
  rwa [ZMk k2.1,ZMk k7.1] at h)
 ·simp only[zy,Fact.ok,A.dens,A.den,Q.val] at hf⊢
  obtain⟨f14,f18, -⟩:=hf
  exact ZK5 fun h=> ZLE f14 f18 (ZLw.1 h).2.2.2.1
 ·simp only[ZC8,ZCu,zy,Fact.ok,A.dens,A.den,Q.val] at hs hf⊢
  obtain⟨k4,k9, -⟩:=hs
  obtain⟨f19,f22, -⟩:=hf
  exact ZK5 fun h=> ZOL k4.1 k9.1 f19 f22 (ZLw.1 h).2.2.2.2
 ·simp only[A.dens,A.den]
  exact ZWV
 ·simp only[ZC8,ZCu,zy,Fact.ok,A.dens,A.den,Q.val] at hs hf⊢
  obtain⟨k4,k9,k17,k33, -⟩:=hs
  obtain⟨f25,f45,f56,f57,f61,f62,f63, -⟩:=hf
  exact ZWW (ZOJ k4.1 k9.1 (ZQm f25) f45 f56 rfl rfl rfl (ZLo (ZLD f57 f61)) k33.1 f62 f63)
 ·simp only[ZC8,ZCu,zy,Fact.ok,A.dens,A.den,Q.val] at hs hf⊢
  obtain⟨k4,k9, -⟩:=hs
  obtain⟨f45,f56,f57,f61, -⟩:=hf
  exact ZK5 fun h=> ZOM k4.1 k9.1 f45 f56 rfl rfl rfl (fun hh=> ZLE f57 f61 (congrArg V.agg hh)) (ZLw.1 h).2.2.2.2
 ·simp only[ZC8,ZCu,zy,Fact.ok,A.dens,A.den,Q.val] at hs hf⊢
  obtain⟨k0,k1,k2,k4,k5,k6,k7,k9,k17, -⟩:=hs
  obtain⟨f0,f3,f6,f9,f12,f13,f14,f18,f23,f24,f25,f34, -⟩:=hf
  exact ZRM (ZLw.2 ⟨congrArg dn (neF f0 f3),congrArg dn (neF f6 f9),congrArg dn (neF f12 f13),ZLD f14 f18,ZOK k4.1 k9.1 rfl f23 f24 (ZQm f25) f34⟩)
end
section
def v70:List VC:=[
 ⟨[],[],ZLq,[(.agg [.s 0,.s 1,.s 2,.s 3,.s 4]),.k .nils,(.agg [.s 0,.s 1,.s 2,.s 3,.s 4])]⟩,
 ⟨[(6,⟨(.int .i64),true⟩),(10,⟨(.sl 26 false 1048576),true⟩),(14,⟨(.int .i64),true⟩),(15,⟨(.int .i64),true⟩),(16,⟨(.str 1048576),true⟩),(17,⟨(.sl 53 false 1048576),true⟩),(18,⟨(.sl 26 false 1048576),true⟩)],[.pr ZLq [(.agg [.s 0,.s 1,.s 2,.s 3,.s 4]),.s 5,(.agg [.s 6,.s 7,.s 8,.s 9,.s 10])],.pr (eqQ true) [.s 6,(.k (.int .i64 6)),.s 11],.kb 11 true,.pr (eqQ true) [(.len 10),(.k (.int .i64 2)),.s 12],.kb 12 true,.el 10 .z 0 13 5,.pr (ZLG 5) [.s 5,(.lit [.s 14,.s 15,.s 16,.s 17,.s 18] 1 5),.s 19],.el 10 .z 1 20 5],ZLq,[(.agg [.s 0,.s 1,.s 2,.s 3,.s 4]),.s 19,(.agg [.s 21,.s 22,.s 23,.s 24,.s 25])]⟩,
 ⟨[(10,⟨(.sl 26 false 1048576),true⟩)],[.pr ZLq [(.agg [.s 0,.s 1,.s 2,.s 3,.s 4]),.s 5,(.agg [.s 6,.s 7,.s 8,.s 9,.s 10])],.pr (eqQ true) [(.len 10),(.k (.int .i64 2)),.s 12],.kb 12 false],fun l=> ZKE (vns l),[(.agg [.s 0,.s 1,.s 2,.s 3,.s 4]),(.tup [.s 5,(.agg [.s 6,.s 7,.s 8,.s 9,.s 10])])]⟩,
 ⟨[(6,⟨(.int .i64),true⟩),(10,⟨(.sl 26 false 1048576),true⟩)],[.pr ZLq [(.agg [.s 0,.s 1,.s 2,.s 3,.s 4]),.s 5,(.agg [.s 6,.s 7,.s 8,.s 9,.s 10])],.pr (eqQ true) [.s 6,(.k (.int .i64 6)),.s 11],.kb 11 false],fun l=> ZKE (vns l),[(.agg [.s 0,.s 1,.s 2,.s 3,.s 4]),(.tup [.s 5,(.agg [.s 6,.s 7,.s 8,.s 9,.s 10])])]⟩]
theorem k70:ZGO Tryz.prog KD hint0 ZUi inl 200 (ZKw s70) s70=some v70:=by kernel_rfl
theorem x70:VCs Tryz.prog KD v70:=by
 refine⟨fun ρ hs hf=> ?_,fun ρ hs hf=> ?_,fun ρ hs hf=> ?_,fun ρ hs hf=> ?_,trivial⟩
 ·simp only[A.dens,A.den]
  exact ZWS
 ·simp only[ZC8,ZCu,zy,Fact.ok,A.dens,A.den,Q.val] at hs hf⊢
  obtain⟨k6,k10,k14,k15,k16,k17,k18, -⟩:=hs
  obtain⟨f2,f9,f12,f15,f18,f31,f32,f45, -⟩:=hf
  obtain⟨h1,h2⟩:=ZR8 f32 (.cons k14.1 (.cons k15.1 (.cons k16.1 (.cons k17.1 (.cons k18.1 .nil)))))
  obtain⟨t1,t2⟩:=ZUP k10.1 (ZLm (eqY f15 f18)) f31 f45 rfl rfl
  refine⟨_,_,_,rfl,fun l s h=> ?_⟩
  rw[h1,List.append_assoc]
  exact ZOr f2 _ _ (.step (ZS2 (eqY f9 f12) t2 rfl rfl) h)
 ·simp only[ZC8,ZCu,zy,Fact.ok,A.dens,A.den,Q.val] at hs hf⊢
  obtain⟨k10, -⟩:=hs
  obtain⟨f2,f15,f18, -⟩:=hf
  exact ZPJ (by
  have:=ZOr f2 [] _ (.stop (not_two k10.1 (Or.inr fun hh=> eqN f15 f18 (by rw[hh];rfl))))
  rwa [List.append_nil] at this)
 ·simp only[ZC8,ZCu,zy,Fact.ok,A.dens,A.den,Q.val] at hs hf⊢
  obtain⟨k6,k10, -⟩:=hs
  obtain⟨f2,f9,f12, -⟩:=hf
  exact ZPJ (by
  have:=ZOr f2 [] _ (.stop (not_two k10.1 (Or.inl fun n hn he=> eqN f9 f12 (by rw[hn,he]))))
  rwa [List.append_nil] at this)
def v73:List VC:=[
 ⟨[],[],ZLq,[(.agg [.s 0,.s 1,.s 2,.s 3,.s 4]),.k .nils,(.agg [.s 0,.s 1,.s 2,.s 3,.s 4])]⟩,
 ⟨[(6,⟨(.int .i64),true⟩),(10,⟨(.sl 26 false 1048576),true⟩),(14,⟨(.int .i64),true⟩),(15,⟨(.int .i64),true⟩),(16,⟨(.str 1048576),true⟩),(17,⟨(.sl 53 false 1048576),true⟩),(18,⟨(.sl 26 false 1048576),true⟩)],[.pr ZLq [(.agg [.s 0,.s 1,.s 2,.s 3,.s 4]),.s 5,(.agg [.s 6,.s 7,.s 8,.s 9,.s 10])],.pr (eqQ true) [.s 6,(.k (.int .i64 6)),.s 11],.kb 11 true,.pr (eqQ true) [(.len 10),(.k (.int .i64 2)),.s 12],.kb 12 true,.el 10 .z 0 13 5,.pr (ZLG 5) [.s 5,(.lit [.s 14,.s 15,.s 16,.s 17,.s 18] 1 5),.s 19],.el 10 .z 1 20 5],ZLq,[(.agg [.s 0,.s 1,.s 2,.s 3,.s 4]),.s 19,(.agg [.s 21,.s 22,.s 23,.s 24,.s 25])]⟩,
 ⟨[(10,⟨(.sl 26 false 1048576),true⟩)],[.pr ZLq [(.agg [.s 0,.s 1,.s 2,.s 3,.s 4]),.s 5,(.agg [.s 6,.s 7,.s 8,.s 9,.s 10])],.pr (eqQ true) [(.len 10),(.k (.int .i64 2)),.s 12],.kb 12 false],fun l=> ZKE (vns l),[(.agg [.s 0,.s 1,.s 2,.s 3,.s 4]),(.tup [.s 5,(.agg [.s 6,.s 7,.s 8,.s 9,.s 10])])]⟩,
 ⟨[(6,⟨(.int .i64),true⟩),(10,⟨(.sl 26 false 1048576),true⟩)],[.pr ZLq [(.agg [.s 0,.s 1,.s 2,.s 3,.s 4]),.s 5,(.agg [.s 6,.s 7,.s 8,.s 9,.s 10])],.pr (eqQ true) [.s 6,(.k (.int .i64 6)),.s 11],.kb 11 false],fun l=> ZKE (vns l),[(.agg [.s 0,.s 1,.s 2,.s 3,.s 4]),(.tup [.s 5,(.agg [.s 6,.s 7,.s 8,.s 9,.s 10])])]⟩]
theorem k73:ZGO Tryz.prog KD hint0 ZUj inl 200 (ZKw s73) s73=some v73:=by kernel_rfl
theorem x73:VCs Tryz.prog KD v73:=by
 refine⟨fun ρ hs hf=> ?_,fun ρ hs hf=> ?_,fun ρ hs hf=> ?_,fun ρ hs hf=> ?_,trivial⟩
 ·simp only[A.dens,A.den]
  exact ZWS
 ·simp only[ZC8,ZCu,zy,Fact.ok,A.dens,A.den,Q.val] at hs hf⊢
  obtain⟨k6,k10,k14,k15,k16,k17,k18, -⟩:=hs
  obtain⟨f2,f9,f12,f15,f18,f31,f32,f45, -⟩:=hf
  obtain⟨h1,h2⟩:=ZR8 f32 (.cons k14.1 (.cons k15.1 (.cons k16.1 (.cons k17.1 (.cons k18.1 .nil)))))
  obtain⟨t1,t2⟩:=ZUP k10.1 (ZLm (eqY f15 f18)) f31 f45 rfl rfl
  refine⟨_,_,_,rfl,fun l s h=> ?_⟩
  rw[h1,List.append_assoc]
  exact ZOr f2 _ _ (.step (ZS2 (eqY f9 f12) t2 rfl rfl) h)
 ·simp only[ZC8,ZCu,zy,Fact.ok,A.dens,A.den,Q.val] at hs hf⊢
  obtain⟨k10, -⟩:=hs
  obtain⟨f2,f15,f18, -⟩:=hf
  exact ZPJ (by
  have:=ZOr f2 [] _ (.stop (not_two k10.1 (Or.inr fun hh=> eqN f15 f18 (by rw[hh];rfl))))
  rwa [List.append_nil] at this)
 ·simp only[ZC8,ZCu,zy,Fact.ok,A.dens,A.den,Q.val] at hs hf⊢
  obtain⟨k6,k10, -⟩:=hs
  obtain⟨f2,f9,f12, -⟩:=hf
  exact ZPJ (by
  have:=ZOr f2 [] _ (.stop (not_two k10.1 (Or.inl fun n hn he=> eqN f9 f12 (by rw[hn,he]))))
  rwa [List.append_nil] at this)
def v71:List VC:=[
 ⟨[],[],ZLJ,[(.agg [.s 0,.s 1,.s 2,.s 3,.s 4]),.s 5,(.k (.int .i64 0)),(.agg [.s 0,.s 1,.s 2,.s 3,.s 4])]⟩,
 ⟨[(5,⟨(.sl 26 false 1048576),true⟩),(6,⟨.idx,true⟩),(7,⟨(.int .i64),true⟩),(8,⟨(.int .i64),true⟩),(9,⟨(.str 1048576),true⟩),(10,⟨(.sl 53 false 1048576),true⟩),(11,⟨(.sl 26 false 1048576),true⟩),(14,⟨(.int .i64),true⟩),(15,⟨(.int .i64),true⟩),(16,⟨(.str 1048576),true⟩),(17,⟨(.sl 53 false 1048576),true⟩),(18,⟨(.sl 26 false 1048576),true⟩),(19,⟨.idx,true⟩)],[.pr ZLJ [(.agg [.s 0,.s 1,.s 2,.s 3,.s 4]),.s 5,.s 6,(.agg [.s 7,.s 8,.s 9,.s 10,.s 11])],.el 5 (.v 6) 0 13 5,.c (.v 19) (.v 6) 1,.c (.v 6) (.v 19) (-1)],ZLJ,[(.agg [.s 0,.s 1,.s 2,.s 3,.s 4]),.s 5,.s 19,(.agg [(.k (.int .i64 4)),(.k (.int .i64 0)),(.k (.str ⟨#[]⟩)),.k .nils,(.lit [.s 7,.s 8,.s 9,.s 10,.s 11,.s 14,.s 15,.s 16,.s 17,.s 18] 2 5)])]⟩,
 ⟨[(5,⟨(.sl 26 false 1048576),true⟩),(6,⟨.idx,true⟩)],[.pr ZLJ [(.agg [.s 0,.s 1,.s 2,.s 3,.s 4]),.s 5,.s 6,(.agg [.s 7,.s 8,.s 9,.s 10,.s 11])],.c (.l 5) (.v 6) 0],fun l=> ZL0 (vns l),[(.agg [.s 0,.s 1,.s 2,.s 3,.s 4]),.s 5,(.agg [.s 7,.s 8,.s 9,.s 10,.s 11])]⟩]
theorem k71:ZGO Tryz.prog KD hint0 ZTY inl 200 (ZKw s71) s71=some v71:=by kernel_rfl
theorem x71:VCs Tryz.prog KD v71:=by
 refine⟨fun ρ hs hf=> ?_,fun ρ hs hf=> ?_,fun ρ hs hf=> ?_,trivial⟩
 ·simp only[A.dens,A.den]
  exact ZW1
 ·simp only[ZC8,ZCu,zy,Fact.ok,A.dens,A.den,Q.val] at hs hf⊢
  obtain⟨k5,k6,k7,k8,k9,k10,k11,k14,k15,k16,k17,k18,k19, -⟩:=hs
  obtain⟨f0,f19,f20,f21, -⟩:=hf
  obtain⟨i,e,h⟩:=ZQp f0
  obtain⟨N,n1,n2,n3, -⟩:=ZL2 k5.1 f19 rfl
  rw[show(KD 26 false).length=5 from rfl] at n3
  obtain⟨j,e',hj⟩:=ZMi k19.1
  rw[e] at n1 f20 f21
  rw[e'] at f20 f21⊢
  simp only[V.intN] at n1 f20 f21
  obtain rfl:N=i:=by omega
  obtain rfl:j=N+1:=by omega
  refine⟨_,_,_,_,rfl,fun r hr=> h r ?_⟩
  rw[n3,dns_append]
  refine .cons rfl ?_
  exact ZU4 (.cons k7.1 (.cons k8.1 (.cons k9.1 (.cons k10.1 (.cons k11.1 (.cons k14.1 (.cons k15.1 (.cons k16.1 (.cons k17.1 (.cons k18.1 .nil)))))))))) rfl hr
 ·simp only[ZC8,ZCu,zy,Fact.ok,A.dens,A.den,Q.val] at hs hf⊢
  obtain⟨k5,k6, -⟩:=hs
  obtain⟨f0,f8, -⟩:=hf
  obtain⟨i,e,h⟩:=ZQp f0
  refine ZU1 (ZMb k5.1) (h _ ?_)
  rw[e] at f8
  simp only[V.intN] at f8
  rw[List.drop_eq_nil_of_le (by rw[(ZLu k5.1).2];exact Nat.mul_le_mul_right _ (by omega))]
  exact .nil
def v38:List VC:=[
 ⟨[],[],ZLJ,[(.agg [.s 0,.s 1,.s 2,.s 3,.s 4]),.s 5,(.k (.int .i64 0)),(.agg [.s 0,.s 1,.s 2,.s 3,.s 4])]⟩,
 ⟨[(5,⟨(.sl 26 false 1048576),true⟩),(6,⟨.idx,true⟩),(7,⟨(.int .i64),true⟩),(8,⟨(.int .i64),true⟩),(9,⟨(.str 1048576),true⟩),(10,⟨(.sl 53 false 1048576),true⟩),(11,⟨(.sl 26 false 1048576),true⟩),(14,⟨(.int .i64),true⟩),(15,⟨(.int .i64),true⟩),(16,⟨(.str 1048576),true⟩),(17,⟨(.sl 53 false 1048576),true⟩),(18,⟨(.sl 26 false 1048576),true⟩),(19,⟨.idx,true⟩)],[.pr ZLJ [(.agg [.s 0,.s 1,.s 2,.s 3,.s 4]),.s 5,.s 6,(.agg [.s 7,.s 8,.s 9,.s 10,.s 11])],.el 5 (.v 6) 0 13 5,.c (.v 19) (.v 6) 1,.c (.v 6) (.v 19) (-1)],ZLJ,[(.agg [.s 0,.s 1,.s 2,.s 3,.s 4]),.s 5,.s 19,(.agg [(.k (.int .i64 4)),(.k (.int .i64 0)),(.k (.str ⟨#[]⟩)),.k .nils,(.lit [.s 7,.s 8,.s 9,.s 10,.s 11,.s 14,.s 15,.s 16,.s 17,.s 18] 2 5)])]⟩,
 ⟨[(5,⟨(.sl 26 false 1048576),true⟩),(6,⟨.idx,true⟩)],[.pr ZLJ [(.agg [.s 0,.s 1,.s 2,.s 3,.s 4]),.s 5,.s 6,(.agg [.s 7,.s 8,.s 9,.s 10,.s 11])],.c (.l 5) (.v 6) 0],fun l=> ZL0 (vns l),[(.agg [.s 0,.s 1,.s 2,.s 3,.s 4]),.s 5,(.agg [.s 7,.s 8,.s 9,.s 10,.s 11])]⟩]
theorem k38:ZGO Tryz.prog KD hint0 ZTZ inl 200 (ZKw s38) s38=some v38:=by kernel_rfl
theorem x38:VCs Tryz.prog KD v38:=by
 refine⟨fun ρ hs hf=> ?_,fun ρ hs hf=> ?_,fun ρ hs hf=> ?_,trivial⟩
 ·simp only[A.dens,A.den]
  exact ZW1
 ·simp only[ZC8,ZCu,zy,Fact.ok,A.dens,A.den,Q.val] at hs hf⊢
  obtain⟨k5,k6,k7,k8,k9,k10,k11,k14,k15,k16,k17,k18,k19, -⟩:=hs
  obtain⟨f0,f19,f20,f21, -⟩:=hf
  obtain⟨i,e,h⟩:=ZQp f0
  obtain⟨N,n1,n2,n3, -⟩:=ZL2 k5.1 f19 rfl
  rw[show(KD 26 false).length=5 from rfl] at n3
  obtain⟨j,e',hj⟩:=ZMi k19.1
  rw[e] at n1 f20 f21
  rw[e'] at f20 f21⊢
  simp only[V.intN] at n1 f20 f21
  obtain rfl:N=i:=by omega
  obtain rfl:j=N+1:=by omega
  refine⟨_,_,_,_,rfl,fun r hr=> h r ?_⟩
  rw[n3,dns_append]
  refine .cons rfl ?_
  exact ZU4 (.cons k7.1 (.cons k8.1 (.cons k9.1 (.cons k10.1 (.cons k11.1 (.cons k14.1 (.cons k15.1 (.cons k16.1 (.cons k17.1 (.cons k18.1 .nil)))))))))) rfl hr
 ·simp only[ZC8,ZCu,zy,Fact.ok,A.dens,A.den,Q.val] at hs hf⊢
  obtain⟨k5,k6, -⟩:=hs
  obtain⟨f0,f8, -⟩:=hf
  obtain⟨i,e,h⟩:=ZQp f0
  refine ZU1 (ZMb k5.1) (h _ ?_)
  rw[e] at f8
  simp only[V.intN] at f8
  rw[List.drop_eq_nil_of_le (by rw[(ZLu k5.1).2];exact Nat.mul_le_mul_right _ (by omega))]
  exact .nil
def v41:List VC:=[
 ⟨[(0,⟨(.int .i64),true⟩),(1,⟨(.sl 26 false 1048576),true⟩),(7,⟨(.int .i64),true⟩)],[.c (.v 7) (.l 1) (-1),.c (.l 1) (.v 7) 1],ZNk,[.s 0,.s 1,(.agg [.s 2,.s 3,.s 4,.s 5,.s 6]),.s 7,(.agg [.s 2,.s 3,.s 4,.s 5,.s 6])]⟩,
 ⟨[(0,⟨(.int .i64),true⟩),(1,⟨(.sl 26 false 1048576),true⟩),(8,⟨(.int .i64),true⟩),(9,⟨(.int .i64),true⟩),(10,⟨(.int .i64),true⟩),(11,⟨(.str 1048576),true⟩),(12,⟨(.sl 53 false 1048576),true⟩),(13,⟨(.sl 26 false 1048576),true⟩),(16,⟨(.int .i64),true⟩),(17,⟨(.int .i64),true⟩),(18,⟨(.str 1048576),true⟩),(19,⟨(.sl 53 false 1048576),true⟩),(20,⟨(.sl 26 false 1048576),true⟩),(21,⟨(.int .i64),true⟩)],[.pr ZNk [.s 0,.s 1,(.agg [.s 2,.s 3,.s 4,.s 5,.s 6]),.s 8,(.agg [.s 9,.s 10,.s 11,.s 12,.s 13])],.c .z (.v 8) 0,.el 1 (.v 8) 0 15 5,.c (.v 21) (.v 8) (-1),.c (.v 8) (.v 21) 1],ZNk,[.s 0,.s 1,(.agg [.s 2,.s 3,.s 4,.s 5,.s 6]),.s 21,(.agg [.s 0,(.k (.int .i64 0)),(.k (.str ⟨#[]⟩)),.k .nils,(.lit [.s 16,.s 17,.s 18,.s 19,.s 20,.s 9,.s 10,.s 11,.s 12,.s 13] 2 5)])]⟩,
 ⟨[(0,⟨(.int .i64),true⟩),(1,⟨(.sl 26 false 1048576),true⟩),(8,⟨(.int .i64),true⟩)],[.pr ZNk [.s 0,.s 1,(.agg [.s 2,.s 3,.s 4,.s 5,.s 6]),.s 8,(.agg [.s 9,.s 10,.s 11,.s 12,.s 13])],.c (.v 8) .z (-1)],fun l=> ZOc (vns l),[.s 0,.s 1,(.agg [.s 2,.s 3,.s 4,.s 5,.s 6]),(.agg [.s 9,.s 10,.s 11,.s 12,.s 13])]⟩]
theorem k41:ZGO Tryz.prog KD hint0 ZT0 inl 200 (ZKw s41) s41=some v41:=by kernel_rfl
theorem x41:VCs Tryz.prog KD v41:=by
 refine⟨fun ρ hs hf=> ?_,fun ρ hs hf=> ?_,fun ρ hs hf=> ?_,trivial⟩
 ·simp only[ZC8,ZCu,zy,Fact.ok,A.dens,A.den,Q.val] at hs hf⊢
  obtain⟨k0,k1,k7, -⟩:=hs
  obtain⟨f0,f1, -⟩:=hf
  obtain⟨k,e0⟩:=tk_int k0.1
  obtain⟨w,e7⟩:=tk_int k7.1
  rw[e7] at f0 f1⊢
  rw[e0]
  simp only[V.intN] at f0 f1
  refine ZWU (V.lenN (ρ 1)) (by omega) fun r hr=> ?_
  rwa [List.take_of_length_le (by rw[(ZLu k1.1).2];exact Nat.le_refl _)] at hr
 ·simp only[ZC8,ZCu,zy,Fact.ok,A.dens,A.den,Q.val] at hs hf⊢
  obtain⟨k0,k1,k8,k9,k10,k11,k12,k13,k16,k17,k18,k19,k20,k21, -⟩:=hs
  obtain⟨f2,f13,f24,f25,f26, -⟩:=hf
  obtain⟨k,i,e0,e8,h⟩:=ZWT f2
  obtain⟨N,n1,n2, -,n3⟩:=ZL2 k1.1 f24 rfl
  rw[show(KD 26 false).length=5 from rfl] at n3
  obtain⟨w,e21⟩:=tk_int k21.1
  rw[e8] at n1 f13 f25 f26
  rw[e21] at f25 f26⊢
  rw[e0]
  simp only[V.intN] at n1 f13 f25 f26
  obtain rfl:i=N+1:=by omega
  refine ZWU N (by omega) fun r hr=> h r ?_
  rw[n3,dns_append]
  refine .snoc rfl ?_
  exact ZZF (.cons k16.1 (.cons k17.1 (.cons k18.1 (.cons k19.1 (.cons k20.1 (.cons k9.1 (.cons k10.1 (.cons k11.1 (.cons k12.1 (.cons k13.1 .nil)))))))))) rfl hr
 ·simp only[ZC8,ZCu,zy,Fact.ok,A.dens,A.den,Q.val] at hs hf⊢
  obtain⟨k0,k1,k8, -⟩:=hs
  obtain⟨f2,f13, -⟩:=hf
  obtain⟨k,i,e0,e8,h⟩:=ZWT f2
  rw[e8] at f13
  simp only[V.intN] at f13
  obtain rfl:i=0:=by omega
  rw[e0]
  refine ZZD (ZMb k1.1) (h _ ?_)
  rw[Nat.zero_mul,List.take_zero]
  exact .nil
def v29:List VC:=[
 ⟨[(0,⟨(.int .i64),true⟩),(4,⟨(.sl 26 false 1048576),true⟩)],[.pr (eqQ false) [.s 0,(.k (.int .i64 4)),.s 5],.kb 5 true],fun l=> spP (vns l),[(.agg [.s 0,.s 1,.s 2,.s 3,.s 4]),(.tup [(.agg [.s 0,.s 1,.s 2,.s 3,.s 4]),.k .nils])]⟩,
 ⟨[(4,⟨(.sl 26 false 1048576),true⟩)],[.pr (eqQ false) [(.len 4),(.k (.int .i64 2)),.s 6],.kb 6 true],fun l=> spP (vns l),[(.agg [.s 0,.s 1,.s 2,.s 3,.s 4]),(.tup [(.agg [.s 0,.s 1,.s 2,.s 3,.s 4]),.k .nils])]⟩,
 ⟨[(0,⟨(.int .i64),true⟩),(4,⟨(.sl 26 false 1048576),true⟩),(20,⟨(.int .i64),true⟩),(21,⟨(.int .i64),true⟩),(22,⟨(.str 1048576),true⟩),(23,⟨(.sl 53 false 1048576),true⟩),(24,⟨(.sl 26 false 1048576),true⟩)],[.pr (eqQ false) [.s 0,(.k (.int .i64 4)),.s 5],.kb 5 false,.pr (eqQ false) [(.len 4),(.k (.int .i64 2)),.s 6],.kb 6 false,.el 4 .z 0 7 5,.pr (fun l=> spP (vns l)) [(.agg [.s 8,.s 9,.s 10,.s 11,.s 12]),(.tup [(.agg [.s 13,.s 14,.s 15,.s 16,.s 17]),.s 18])],.el 4 .z 1 19 5,.pr (ZLG 5) [.s 18,(.lit [.s 20,.s 21,.s 22,.s 23,.s 24] 1 5),.s 25]],fun l=> spP (vns l),[(.agg [.s 0,.s 1,.s 2,.s 3,.s 4]),(.tup [(.agg [.s 13,.s 14,.s 15,.s 16,.s 17]),.s 25])]⟩]
theorem k29:ZGO Tryz.prog KD hint0 ZT1 inl 200 (ZKw s29) s29=some v29:=by kernel_rfl
theorem x29:VCs Tryz.prog KD v29:=by
 refine⟨fun ρ hs hf=> ?_,fun ρ hs hf=> ?_,fun ρ hs hf=> ?_,trivial⟩
 ·simp only[ZC8,ZCu,zy,Fact.ok,A.dens,A.den,Q.val] at hs hf⊢
  obtain⟨k0,k4, -⟩:=hs
  obtain⟨f2,f5, -⟩:=hf
  exact spI (.stop (not_two k4.1 (Or.inl fun n hn he=> neT f2 f5 (by rw[hn,he]))))
 ·simp only[ZC8,ZCu,zy,Fact.ok,A.dens,A.den,Q.val] at hs hf⊢
  obtain⟨k4, -⟩:=hs
  obtain⟨f8,f11, -⟩:=hf
  exact spI (.stop (not_two k4.1 (Or.inr fun hh=> neT f8 f11 (by rw[hh];rfl))))
 ·simp only[ZC8,ZCu,zy,Fact.ok,A.dens,A.den,Q.val] at hs hf⊢
  obtain⟨k0,k4,k20,k21,k22,k23,k24, -⟩:=hs
  obtain⟨f2,f5,f8,f11,f24,f26,f37,f38, -⟩:=hf
  obtain⟨h1,h2⟩:=ZR8 f38 (.cons k20.1 (.cons k21.1 (.cons k22.1 (.cons k23.1 (.cons k24.1 .nil)))))
  obtain⟨t1,t2⟩:=ZUP k4.1 (ZLm (neF f8 f11)) f24 f37 rfl rfl
  refine spI ?_
  rw[h1]
  exact .step (ZS2 (neF f2 f5) t2 rfl rfl) (spE f26)
end
section
def ZZl:List VC:=[
 ⟨[],[],ZOu,[.s 0,.s 1,(.k (.int .i64 0))]⟩,
 ⟨[(0,⟨(.sl 9 false 9223372036854775807),true⟩),(1,⟨(.str 1073741824),true⟩),(6,⟨(.str 1073741824),true⟩),(8,⟨.idx,true⟩)],[.pr ZOu [.s 0,.s 1,.s 3],.el 0 (.v 3) 0 5 1,.pr (eqQ true) [.s 6,.s 1,.s 7],.kb 7 false,.c (.v 8) (.v 3) 1,.c (.v 3) (.v 8) (-1)],ZOu,[.s 0,.s 1,.s 8]⟩,
 ⟨[(0,⟨(.sl 9 false 9223372036854775807),true⟩),(1,⟨(.str 1073741824),true⟩),(6,⟨(.str 1073741824),true⟩)],[.el 0 (.v 3) 0 5 1,.pr (eqQ true) [.s 6,.s 1,.s 7],.kb 7 true],fun l=> ZMq (vns l),[.s 0,.s 1,(.k (.bool true))]⟩,
 ⟨[(0,⟨(.sl 9 false 9223372036854775807),true⟩),(1,⟨(.str 1073741824),true⟩)],[.pr ZOu [.s 0,.s 1,.s 3],.c (.l 0) (.v 3) 0],fun l=> ZMq (vns l),[.s 0,.s 1,(.k (.bool false))]⟩]
theorem Z0x:ZGO Tryz.prog KD hint0 ZT2 inl 200 (ZKw ZTI) ZTI=some ZZl:=by kernel_rfl
theorem Z3a:VCs Tryz.prog KD ZZl:=by
 refine⟨fun ρ hs hf=> ?_,fun ρ hs hf=> ?_,fun ρ hs hf=> ?_,fun ρ hs hf=> ?_,trivial⟩
 ·simp only[A.dens,A.den]
  exact⟨_,_,0,rfl,by rw[List.take_zero];exact List.not_mem_nil⟩
 ·simp only[ZC8,ZCu,zy,Fact.ok,A.dens,A.den,Q.val] at hs hf⊢
  obtain⟨k0,k1,k6,k8, -⟩:=hs
  obtain⟨f0,f11,f12,f13,f14,f15, -⟩:=hf
  obtain⟨i,e,h⟩:=ZWX f0
  obtain⟨N,n1,n2,n3⟩:=ZYB k0.1 f11 rfl rfl
  obtain⟨j,e',hj⟩:=ZMi k8.1
  rw[e] at n1 f14 f15
  rw[e'] at f14 f15⊢
  simp only[V.intN] at n1 f14 f15
  obtain rfl:N=i:=by omega
  obtain rfl:j=N+1:=by omega
  refine⟨_,_,_,rfl,fun hm=> ?_⟩
  rw[n3] at hm
  rcases List.mem_append.1 hm with hm|hm
  ·exact h hm
  ·exact eqN f12 f13 (List.mem_singleton.1 (show ρ 1∈[ρ 6] from hm)).symm
 ·simp only[ZC8,ZCu,zy,Fact.ok,A.dens,A.den,Q.val] at hs hf⊢
  obtain⟨k0,k1,k6, -⟩:=hs
  obtain⟨f11,f12,f13, -⟩:=hf
  obtain⟨N,n1,n2,n3⟩:=ZYB k0.1 f11 rfl rfl
  refine ZWN k0.1 k1.1 ⟨fun _=> List.mem_of_mem_take (i:=N+1) ?_,fun _=> rfl⟩
  rw[n3,←eqY f12 f13]
  exact List.mem_append_right _ (List.mem_singleton.2 rfl)
 ·simp only[ZC8,ZCu,zy,Fact.ok,A.dens,A.den,Q.val] at hs hf⊢
  obtain⟨k0,k1, -⟩:=hs
  obtain⟨f0,f8, -⟩:=hf
  obtain⟨i,e,h⟩:=ZWX f0
  rw[e] at f8
  simp only[V.intN] at f8
  refine ZWN k0.1 k1.1 ⟨fun hh=> (by cases hh),fun hm=> absurd ?_ h⟩
  rwa [List.take_of_length_le (by rw[(ZLu k0.1).2];show _ * 1≤_;omega)]
def ZZm:List VC:=[
 ⟨[(0,⟨(.int .i64),true⟩),(1,⟨(.str 1048576),true⟩)],[.c .z (.v 0) 0,.c (.v 0) .z 0],fun l=> ZLB (vns l),[(.agg [.s 0,.s 1,.s 2,.s 3,.s 4,.s 5,.s 6,.s 7,.s 8,.s 9,.s 10,.s 11,.s 12,.s 13,.s 14,.s 15,.s 16,.s 17,.s 18,.s 19,.s 20,.s 21,.s 22]),(.lit [.s 1] 1 1)]⟩,
 ⟨[(0,⟨(.int .i64),true⟩),(1,⟨(.str 1048576),true⟩)],[.c .z (.v 0) (-1),.c (.v 0) .z 1],fun l=> ZLB (vns l),[(.agg [.s 0,.s 1,.s 2,.s 3,.s 4,.s 5,.s 6,.s 7,.s 8,.s 9,.s 10,.s 11,.s 12,.s 13,.s 14,.s 15,.s 16,.s 17,.s 18,.s 19,.s 20,.s 21,.s 22]),(.lit [.s 1] 1 1)]⟩,
 ⟨[(0,⟨(.int .i64),true⟩),(1,⟨(.str 1048576),true⟩)],[.c .z (.v 0) (-2),.c (.v 0) .z 2],fun l=> ZLB (vns l),[(.agg [.s 0,.s 1,.s 2,.s 3,.s 4,.s 5,.s 6,.s 7,.s 8,.s 9,.s 10,.s 11,.s 12,.s 13,.s 14,.s 15,.s 16,.s 17,.s 18,.s 19,.s 20,.s 21,.s 22]),(.lit [.s 1] 1 1)]⟩,
 ⟨[(0,⟨(.int .i64),true⟩),(1,⟨(.str 1048576),true⟩)],[.c .z (.v 0) (-3),.c (.v 0) .z 3],(ZLU 14 6),[(.agg [.s 0,.s 1,.s 2,.s 3,.s 4,.s 5,.s 6,.s 7,.s 8,.s 9,.s 10,.s 11,.s 12,.s 13,.s 14,.s 15,.s 16,.s 17,.s 18,.s 19,.s 20,.s 21,.s 22]),(.k (.int .i64 0)),(.lit [.s 1] 1 1)]⟩,
 ⟨[(0,⟨(.int .i64),true⟩),(1,⟨(.str 1048576),true⟩),(14,⟨(.sl 91 false 1048576),true⟩),(31,⟨(.str 1048576),true⟩),(37,⟨(.sl 9 false 9223372036854775807),false⟩),(38,⟨.idx,true⟩)],[.pr (ZLU 14 6) [(.agg [.s 0,.s 1,.s 2,.s 3,.s 4,.s 5,.s 6,.s 7,.s 8,.s 9,.s 10,.s 11,.s 12,.s 13,.s 14,.s 15,.s 16,.s 17,.s 18,.s 19,.s 20,.s 21,.s 22]),.s 28,.s 27],.el 14 (.v 28) 0 30 6,.pr (ZLG 1) [.s 27,(.lit [.s 31] 1 1),.s 37],.c (.v 38) (.v 28) 1,.c (.v 28) (.v 38) (-1)],(ZLU 14 6),[(.agg [.s 0,.s 1,.s 2,.s 3,.s 4,.s 5,.s 6,.s 7,.s 8,.s 9,.s 10,.s 11,.s 12,.s 13,.s 14,.s 15,.s 16,.s 17,.s 18,.s 19,.s 20,.s 21,.s 22]),.s 38,.s 37]⟩,
 ⟨[(0,⟨(.int .i64),true⟩),(1,⟨(.str 1048576),true⟩),(14,⟨(.sl 91 false 1048576),true⟩),(30,⟨(.str 1048580),true⟩),(31,⟨(.sl 9 false 9223372036854775807),false⟩)],[.c .z (.v 0) (-3),.c (.v 0) .z 3,.pr (ZLU 14 6) [(.agg [.s 0,.s 1,.s 2,.s 3,.s 4,.s 5,.s 6,.s 7,.s 8,.s 9,.s 10,.s 11,.s 12,.s 13,.s 14,.s 15,.s 16,.s 17,.s 18,.s 19,.s 20,.s 21,.s 22]),.s 28,.s 27],.c (.v 28) (.l 14) 0,.c (.l 14) (.v 28) 0,.pr ZOR [.s 1,(.k (.str ⟨#[46,114,101,99]⟩)),.s 30],.pr (ZLG 1) [.s 27,(.lit [.s 30] 1 1),.s 31]],fun l=> ZLB (vns l),[(.agg [.s 0,.s 1,.s 2,.s 3,.s 4,.s 5,.s 6,.s 7,.s 8,.s 9,.s 10,.s 11,.s 12,.s 13,.s 14,.s 15,.s 16,.s 17,.s 18,.s 19,.s 20,.s 21,.s 22]),.s 31]⟩,
 ⟨[(0,⟨(.int .i64),true⟩)],[],(ZLU 22 15),[(.agg [.s 0,.s 1,.s 2,.s 3,.s 4,.s 5,.s 6,.s 7,.s 8,.s 9,.s 10,.s 11,.s 12,.s 13,.s 14,.s 15,.s 16,.s 17,.s 18,.s 19,.s 20,.s 21,.s 22]),(.k (.int .i64 0)),.k .nils]⟩,
 ⟨[(22,⟨(.sl 205 false 1048576),true⟩),(32,⟨(.str 1048576),true⟩),(38,⟨(.int .i64),true⟩),(47,⟨(.sl 9 false 9223372036854775807),false⟩),(48,⟨.idx,true⟩)],[.pr (ZLU 22 15) [(.agg [.s 0,.s 1,.s 2,.s 3,.s 4,.s 5,.s 6,.s 7,.s 8,.s 9,.s 10,.s 11,.s 12,.s 13,.s 14,.s 15,.s 16,.s 17,.s 18,.s 19,.s 20,.s 21,.s 22]),.s 29,.s 28],.el 22 (.v 29) 0 31 15,.pr (ZLG 1) [.s 28,(.lit [.s 32] 1 1),.s 47],.c (.v 48) (.v 29) 1,.c (.v 29) (.v 48) (-1)],(ZLU 22 15),[(.agg [.s 0,.s 1,.s 2,.s 3,.s 4,.s 5,.s 6,.s 7,.s 8,.s 9,.s 10,.s 11,.s 12,.s 13,.s 14,.s 15,.s 16,.s 17,.s 18,.s 19,.s 20,.s 21,.s 22]),.s 48,.s 47]⟩,
 ⟨[(0,⟨(.int .i64),true⟩),(22,⟨(.sl 205 false 1048576),true⟩),(28,⟨(.sl 9 false 9223372036854775807),false⟩)],[.c .z (.v 0) (-4),.c (.v 0) .z 4,.pr (ZLU 22 15) [(.agg [.s 0,.s 1,.s 2,.s 3,.s 4,.s 5,.s 6,.s 7,.s 8,.s 9,.s 10,.s 11,.s 12,.s 13,.s 14,.s 15,.s 16,.s 17,.s 18,.s 19,.s 20,.s 21,.s 22]),.s 29,.s 28],.c (.v 29) (.l 22) 0,.c (.l 22) (.v 29) 0],fun l=> ZLB (vns l),[(.agg [.s 0,.s 1,.s 2,.s 3,.s 4,.s 5,.s 6,.s 7,.s 8,.s 9,.s 10,.s 11,.s 12,.s 13,.s 14,.s 15,.s 16,.s 17,.s 18,.s 19,.s 20,.s 21,.s 22]),.s 28]⟩,
 ⟨[(0,⟨(.int .i64),true⟩)],[.pr (eqQ true) [.s 0,(.k (.int .i64 0)),.s 23],.kb 23 false,.pr (eqQ true) [.s 0,(.k (.int .i64 1)),.s 24],.kb 24 false,.pr (eqQ true) [.s 0,(.k (.int .i64 2)),.s 25],.kb 25 false,.pr (eqQ true) [.s 0,(.k (.int .i64 3)),.s 26],.kb 26 false,.pr (eqQ true) [.s 0,(.k (.int .i64 4)),.s 27],.kb 27 false],fun l=> ZLB (vns l),[(.agg [.s 0,.s 1,.s 2,.s 3,.s 4,.s 5,.s 6,.s 7,.s 8,.s 9,.s 10,.s 11,.s 12,.s 13,.s 14,.s 15,.s 16,.s 17,.s 18,.s 19,.s 20,.s 21,.s 22]),.k .nils]⟩]
theorem Z0y:ZGO Tryz.prog KD hint0 ZT3 inl 200 (ZKw ZTJ) ZTJ=some ZZm:=by kernel_rfl
theorem Z3b:VCs Tryz.prog KD ZZm:=by
 refine⟨fun ρ hs hf=> ?_,fun ρ hs hf=> ?_,fun ρ hs hf=> ?_,fun ρ hs hf=> ?_,fun ρ hs hf=> ?_,fun ρ hs hf=> ?_,fun ρ hs hf=> ?_,fun ρ hs hf=> ?_,fun ρ hs hf=> ?_,fun ρ hs hf=> ?_,trivial⟩
 ·simp only[ZC8,ZCu,zy,Fact.ok,A.dens,A.den,Q.val] at hs hf⊢
  obtain⟨k0,k1, -⟩:=hs
  obtain⟨f4,f5, -⟩:=hf
  exact ZTp k1.1 rfl (Or.inl (by show V.intN (ρ 0)=0;omega))
 ·simp only[ZC8,ZCu,zy,Fact.ok,A.dens,A.den,Q.val] at hs hf⊢
  obtain⟨k0,k1, -⟩:=hs
  obtain⟨f8,f9, -⟩:=hf
  exact ZTp k1.1 rfl (Or.inr (Or.inl (by show V.intN (ρ 0)=1;omega)))
 ·simp only[ZC8,ZCu,zy,Fact.ok,A.dens,A.den,Q.val] at hs hf⊢
  obtain⟨k0,k1, -⟩:=hs
  obtain⟨f12,f13, -⟩:=hf
  exact ZTp k1.1 rfl (Or.inr (Or.inr (by show V.intN (ρ 0)=2;omega)))
 ·simp only[ZC8,ZCu,zy,Fact.ok,A.dens,A.den,Q.val] at hs hf⊢
  obtain⟨k0,k1, -⟩:=hs
  obtain⟨f16,f17, -⟩:=hf
  exact⟨_,_,0,rfl,by rw[if_pos rfl];show V.seals [ρ 1]=[ZEY (ρ 1)];rw[ZYn k1.1,ZMc k1.1]⟩
 ·simp only[ZC8,ZCu,zy,Fact.ok,A.dens,A.den,Q.val] at hs hf⊢
  obtain⟨k0,k1,k14,k31,k37,k38, -⟩:=hs
  obtain⟨f18,f47,f48,f51,f52, -⟩:=hf
  obtain⟨i,e,h⟩:=ZQo f18
  obtain⟨N,n1,n2,n3⟩:=ZP7 k14.1 f47 rfl
  rw[show(KD 91 false).length=6 from rfl] at n3
  obtain⟨j,e',hj⟩:=ZMi k38.1
  rw[e] at n1 f51 f52
  rw[e'] at f51 f52⊢
  simp only[V.intN] at n1 f51 f52
  obtain rfl:N=i:=by omega
  obtain rfl:j=N+1:=by omega
  refine⟨_,_,_,rfl,?_⟩
  rw[ZR9 k31.1 f48,h,List.append_assoc]
  show _++(ZKB (slC (ZEY (ρ 14))) 6 N++_)=_++ZKB (slC (ZEY (ρ 14))) 6 (N+1)
  rw[ZPV,n3]
 ·simp only[ZC8,ZCu,zy,Fact.ok,A.dens,A.den,Q.val] at hs hf⊢
  obtain⟨k0,k1,k14,k30,k31, -⟩:=hs
  obtain⟨f16,f17,f18,f26,f34,f35,f36, -⟩:=hf
  obtain⟨i,e,h⟩:=ZQo f18
  obtain⟨p,q,e1,e2,e3⟩:=ZR4 f35
  rw[e] at f26 f34
  simp only[V.intN] at f26 f34
  obtain rfl:i=V.lenN (ρ 14):=by omega
  refine ZRu (ZMb k31.1) ?_
  have hr:ZOE (ZEY (ρ 1))=ρ 30:=by rw[ZMc k1.1,e1,e3];cases e2;rfl
  rw[ZXw (by show V.intN (ρ 0)=3;omega),ZR9 k30.1 f36,h,if_pos rfl]
  show([ZEY (ρ 1)]++ZKB (slC (ZEY (ρ 14))) 6 (V.lenN (ρ 14)))++[ρ 30]=ZEY (ρ 1)::(ZKB (slC (ZEY (ρ 14))) 6 (V.lenN (ZEY (ρ 14)))++[ZOE (ZEY (ρ 1))])
  rw[ZOz,hr];rfl
 ·simp only[ZC8,ZCu] at hs
  simp only[A.dens,A.den]
  obtain⟨k0, -⟩:=hs
  exact⟨_,_,0,rfl,rfl⟩
 ·simp only[ZC8,ZCu,zy,Fact.ok,A.dens,A.den,Q.val] at hs hf⊢
  obtain⟨k22,k32,k38,k47,k48, -⟩:=hs
  obtain⟨f22,f67,f68,f71,f72, -⟩:=hf
  obtain⟨i,e,h⟩:=ZQo f22
  obtain⟨N,n1,n2,n3⟩:=ZP7 k22.1 f67 rfl
  rw[show(KD 205 false).length=15 from rfl] at n3
  obtain⟨j,e',hj⟩:=ZMi k48.1
  rw[e] at n1 f71 f72
  rw[e'] at f71 f72⊢
  simp only[V.intN] at n1 f71 f72
  obtain rfl:N=i:=by omega
  obtain rfl:j=N+1:=by omega
  refine⟨_,_,_,rfl,?_⟩
  rw[ZR9 k32.1 f68,h,List.append_assoc]
  show _++(ZKB (slC (ZEY (ρ 22))) 15 N++_)=_++ZKB (slC (ZEY (ρ 22))) 15 (N+1)
  rw[ZPV,n3]
 ·simp only[ZC8,ZCu,zy,Fact.ok,A.dens,A.den,Q.val] at hs hf⊢
  obtain⟨k0,k22,k28, -⟩:=hs
  obtain⟨f20,f21,f22,f28,f36, -⟩:=hf
  obtain⟨i,e,h⟩:=ZQo f22
  rw[e] at f28 f36
  simp only[V.intN] at f28 f36
  obtain rfl:i=V.lenN (ρ 22):=by omega
  refine ZRu (ZMb k28.1) ?_
  rw[ZXx (by show V.intN (ρ 0)=4;omega),h]
  show[]++ZKB (slC (ZEY (ρ 22))) 15 (V.lenN (ρ 22))=ZKB (slC (ZEY (ρ 22))) 15 (V.lenN (ZEY (ρ 22)))
  rw[ZOz];rfl
 ·simp only[ZC8,ZCu,zy,Fact.ok,A.dens,A.den,Q.val] at hs hf⊢
  obtain⟨k0, -⟩:=hs
  obtain⟨f0,f3,f4,f7,f8,f11,f12,f15,f16,f19, -⟩:=hf
  exact Z1J k0.1 (eqN f0 f3) (eqN f4 f7) (eqN f8 f11) (eqN f12 f15) (eqN f16 f19)
def v130:List VC:=[
 ⟨[(0,⟨(.int .i64),true⟩),(24,⟨(.str 1073741824),true⟩)],[.c .z (.v 0) 0,.c (.v 0) .z 0],fun l=> ZLy (vns l),[(.agg [.s 0,.s 1,.s 2,.s 3,.s 4,.s 5,.s 6,.s 7,.s 8,.s 9,.s 10,.s 11,.s 12,.s 13,.s 14,.s 15,.s 16,.s 17,.s 18,.s 19,.s 20,.s 21,.s 22]),.s 23,.s 24,(.agg [(.k (.int .i64 0)),.s 23,(.k (.int .i64 0)),.s 2,.s 3,.s 4,.s 5,.s 6,.s 7])]⟩,
 ⟨[(0,⟨(.int .i64),true⟩),(24,⟨(.str 1073741824),true⟩)],[.c .z (.v 0) (-1),.c (.v 0) .z 1],fun l=> ZLy (vns l),[(.agg [.s 0,.s 1,.s 2,.s 3,.s 4,.s 5,.s 6,.s 7,.s 8,.s 9,.s 10,.s 11,.s 12,.s 13,.s 14,.s 15,.s 16,.s 17,.s 18,.s 19,.s 20,.s 21,.s 22]),.s 23,.s 24,(.agg [(.k (.int .i64 1)),.s 23,(.k (.int .i64 0)),.s 2,.s 3,.s 4,.s 5,.s 6,.s 7])]⟩,
 ⟨[(0,⟨(.int .i64),true⟩),(24,⟨(.str 1073741824),true⟩)],[.c .z (.v 0) (-2),.c (.v 0) .z 2],fun l=> ZLy (vns l),[(.agg [.s 0,.s 1,.s 2,.s 3,.s 4,.s 5,.s 6,.s 7,.s 8,.s 9,.s 10,.s 11,.s 12,.s 13,.s 14,.s 15,.s 16,.s 17,.s 18,.s 19,.s 20,.s 21,.s 22]),.s 23,.s 24,(.agg [(.k (.int .i64 2)),.s 23,(.k (.int .i64 0)),.s 2,.s 3,.s 4,.s 5,.s 6,.s 7])]⟩,
 ⟨[(0,⟨(.int .i64),true⟩),(1,⟨(.str 1048576),true⟩),(24,⟨(.str 1073741824),true⟩)],[.pr (eqQ true) [.s 0,(.k (.int .i64 3)),.s 28],.kb 28 true,.pr (eqQ true) [.s 24,.s 1,.s 29],.kb 29 true],fun l=> ZLy (vns l),[(.agg [.s 0,.s 1,.s 2,.s 3,.s 4,.s 5,.s 6,.s 7,.s 8,.s 9,.s 10,.s 11,.s 12,.s 13,.s 14,.s 15,.s 16,.s 17,.s 18,.s 19,.s 20,.s 21,.s 22]),.s 23,.s 24,(.agg [(.k (.int .i64 3)),.s 23,(.k (.int .i64 0)),.s 2,.s 3,.s 4,.s 5,.s 6,.s 7])]⟩,
 ⟨[(0,⟨(.int .i64),true⟩),(1,⟨(.str 1048576),true⟩),(24,⟨(.str 1073741824),true⟩),(30,⟨.idx,true⟩)],[.pr (eqQ true) [.s 24,.s 1,.s 29],.kb 29 false],fun l=> ZLy (vns l),[(.agg [.s 0,.s 1,.s 2,.s 3,.s 4,.s 5,.s 6,.s 7,.s 8,.s 9,.s 10,.s 11,.s 12,.s 13,.s 14,.s 15,.s 16,.s 17,.s 18,.s 19,.s 20,.s 21,.s 22]),.s 23,.s 24,(.agg [(.k (.int .i64 4)),.s 23,.s 30,.s 2,.s 34,.s 35,.s 36,.s 37,.s 38])]⟩,
 ⟨[(0,⟨(.int .i64),true⟩),(1,⟨(.str 1048576),true⟩),(24,⟨(.str 1073741824),true⟩)],[.pr (eqQ true) [.s 24,.s 1,.s 29],.kb 29 false],fun l=> ZLy (vns l),[(.agg [.s 0,.s 1,.s 2,.s 3,.s 4,.s 5,.s 6,.s 7,.s 8,.s 9,.s 10,.s 11,.s 12,.s 13,.s 14,.s 15,.s 16,.s 17,.s 18,.s 19,.s 20,.s 21,.s 22]),.s 23,.s 24,(.agg [(.k (.int .i64 5)),.s 23,(.k (.int .i64 0)),.s 15,.s 16,.s 17,.s 18,.s 19,.s 20])]⟩,
 ⟨[(0,⟨(.int .i64),true⟩),(24,⟨(.str 1073741824),true⟩),(29,⟨.idx,true⟩)],[.pr (eqQ true) [.s 0,(.k (.int .i64 3)),.s 28],.kb 28 false],fun l=> ZLy (vns l),[(.agg [.s 0,.s 1,.s 2,.s 3,.s 4,.s 5,.s 6,.s 7,.s 8,.s 9,.s 10,.s 11,.s 12,.s 13,.s 14,.s 15,.s 16,.s 17,.s 18,.s 19,.s 20,.s 21,.s 22]),.s 23,.s 24,(.agg [(.k (.int .i64 6)),.s 23,.s 29,.s 2,.s 33,.s 34,.s 35,.s 36,.s 37])]⟩,
 ⟨[(0,⟨(.int .i64),true⟩),(24,⟨(.str 1073741824),true⟩)],[.pr (eqQ true) [.s 0,(.k (.int .i64 3)),.s 28],.kb 28 false],fun l=> ZLy (vns l),[(.agg [.s 0,.s 1,.s 2,.s 3,.s 4,.s 5,.s 6,.s 7,.s 8,.s 9,.s 10,.s 11,.s 12,.s 13,.s 14,.s 15,.s 16,.s 17,.s 18,.s 19,.s 20,.s 21,.s 22]),.s 23,.s 24,(.agg [(.k (.int .i64 0)),.s 23,(.k (.int .i64 0)),.s 2,.s 3,.s 4,.s 5,.s 6,.s 7])]⟩]
theorem Z0z:ZGO Tryz.prog KD hint0 ZT4 inl 200 (ZKw ZTK) ZTK=some v130:=by kernel_rfl
theorem Z3c:VCs Tryz.prog KD v130:=by
 refine⟨fun ρ hs hf=> ?_,fun ρ hs hf=> ?_,fun ρ hs hf=> ?_,fun ρ hs hf=> ?_,fun ρ hs hf=> ?_,fun ρ hs hf=> ?_,fun ρ hs hf=> ?_,fun ρ hs hf=> ?_,trivial⟩
 ·simp only[ZC8,ZCu,zy,Fact.ok,A.dens,A.den,Q.val] at hs hf⊢
  obtain⟨k0,k24, -⟩:=hs
  obtain⟨f4,f5, -⟩:=hf
  exact ZNd k24.1 (show(0:Int)≠3 by decide) (fun h=> by have h:=h.1;change V.intN (ρ 0)=3 at h;omega) (Int.le_refl 0)
 ·simp only[ZC8,ZCu,zy,Fact.ok,A.dens,A.den,Q.val] at hs hf⊢
  obtain⟨k0,k24, -⟩:=hs
  obtain⟨f8,f9, -⟩:=hf
  exact ZNd k24.1 (show(1:Int)≠3 by decide) (fun h=> by have h:=h.1;change V.intN (ρ 0)=3 at h;omega) (Int.le_refl 0)
 ·simp only[ZC8,ZCu,zy,Fact.ok,A.dens,A.den,Q.val] at hs hf⊢
  obtain⟨k0,k24, -⟩:=hs
  obtain⟨f12,f13, -⟩:=hf
  exact ZNd k24.1 (show(2:Int)≠3 by decide) (fun h=> by have h:=h.1;change V.intN (ρ 0)=3 at h;omega) (Int.le_refl 0)
 ·simp only[ZC8,ZCu,zy,Fact.ok,A.dens,A.den,Q.val] at hs hf⊢
  obtain⟨k0,k1,k24, -⟩:=hs
  obtain⟨f12,f15,f18,f19, -⟩:=hf
  exact ZVu k24.1 ⟨⟨fun _=> ⟨by show V.intN (ρ 0)=3;rw[eqY f12 f15];rfl,by show ρ 24=ZEY (ρ 1);rw[ZMc k1.1];exact eqY f18 f19⟩,fun _=> rfl⟩,Int.le_refl 0⟩
 ·simp only[ZC8,ZCu,zy,Fact.ok,A.dens,A.den,Q.val] at hs hf⊢
  obtain⟨k0,k1,k24,k30, -⟩:=hs
  obtain⟨f18,f19, -⟩:=hf
  exact ZNd k24.1 (show(4:Int)≠3 by decide) (fun h=> eqN f18 f19 (by have h:=h.2;change ρ 24=ZEY (ρ 1) at h;rwa [ZMc k1.1] at h)) (ZQj k30.1)
 ·simp only[ZC8,ZCu,zy,Fact.ok,A.dens,A.den,Q.val] at hs hf⊢
  obtain⟨k0,k1,k24, -⟩:=hs
  obtain⟨f18,f19, -⟩:=hf
  exact ZNd k24.1 (show(5:Int)≠3 by decide) (fun h=> eqN f18 f19 (by have h:=h.2;change ρ 24=ZEY (ρ 1) at h;rwa [ZMc k1.1] at h)) (Int.le_refl 0)
 ·simp only[ZC8,ZCu,zy,Fact.ok,A.dens,A.den,Q.val] at hs hf⊢
  obtain⟨k0,k24,k29, -⟩:=hs
  obtain⟨f12,f15, -⟩:=hf
  exact ZNd k24.1 (show(6:Int)≠3 by decide) (fun h=> eqN f12 f15 (ZKG k0.1 h.1)) (ZQj k29.1)
 ·simp only[ZC8,ZCu,zy,Fact.ok,A.dens,A.den,Q.val] at hs hf⊢
  obtain⟨k0,k24, -⟩:=hs
  obtain⟨f12,f15, -⟩:=hf
  exact ZNd k24.1 (show(0:Int)≠3 by decide) (fun h=> eqN f12 f15 (ZKG k0.1 h.1)) (Int.le_refl 0)
def v72:List VC:=[
 ⟨[],[],ZKq,[.s 0,.s 1,(.k (.int .i64 0))]⟩,
 ⟨[(0,⟨(.sl 49 false 1048576),true⟩),(1,⟨(.str 1073741824),true⟩),(29,⟨(.sl 9 false 9223372036854775807),false⟩),(31,⟨.idx,true⟩)],[.pr ZKq [.s 0,.s 1,.s 3],.el 0 (.v 3) 0 5 23,.pr (fun l=> ZLB (vns l)) [(.agg [.s 6,.s 7,.s 8,.s 9,.s 10,.s 11,.s 12,.s 13,.s 14,.s 15,.s 16,.s 17,.s 18,.s 19,.s 20,.s 21,.s 22,.s 23,.s 24,.s 25,.s 26,.s 27,.s 28]),.s 29],.pr (fun l=> ZMq (vns l)) [.s 29,.s 1,.s 30],.kb 30 false,.c (.v 31) (.v 3) 1,.c (.v 3) (.v 31) (-1)],ZKq,[.s 0,.s 1,.s 31]⟩,
 ⟨[(0,⟨(.sl 49 false 1048576),true⟩),(1,⟨(.str 1073741824),true⟩),(29,⟨(.sl 9 false 9223372036854775807),false⟩),(32,⟨(.int .i64),true⟩)],[.pr ZKq [.s 0,.s 1,.s 3],.el 0 (.v 3) 0 5 23,.pr (fun l=> ZLB (vns l)) [(.agg [.s 6,.s 7,.s 8,.s 9,.s 10,.s 11,.s 12,.s 13,.s 14,.s 15,.s 16,.s 17,.s 18,.s 19,.s 20,.s 21,.s 22,.s 23,.s 24,.s 25,.s 26,.s 27,.s 28]),.s 29],.pr (fun l=> ZMq (vns l)) [.s 29,.s 1,.s 30],.kb 30 true,.c (.v 32) (.v 3) 0,.c (.v 3) (.v 32) 0,.pr (fun l=> ZLy (vns l)) [(.agg [.s 6,.s 7,.s 8,.s 9,.s 10,.s 11,.s 12,.s 13,.s 14,.s 15,.s 16,.s 17,.s 18,.s 19,.s 20,.s 21,.s 22,.s 23,.s 24,.s 25,.s 26,.s 27,.s 28]),.s 3,.s 1,(.agg [.s 31,.s 32,.s 33,.s 34,.s 35,.s 36,.s 37,.s 38,.s 39])]],fun l=> ZKR (vns l),[.s 0,.s 1,(.tup [(.agg [.s 31,.s 32,.s 33,.s 34,.s 35,.s 36,.s 37,.s 38,.s 39]),(.k (.int .i64 0))])]⟩,
 ⟨[(0,⟨(.sl 49 false 1048576),true⟩),(1,⟨(.str 1073741824),true⟩)],[.pr ZKq [.s 0,.s 1,.s 3],.c (.l 0) (.v 3) 0],fun l=> ZNg (vns l),[.s 0,.s 1,(.tup [(.agg [(.k (.int .i64 0)),(.k (.int .i64 0)),(.k (.int .i64 0)),(.k (.int .i64 0)),(.k (.int .i64 0)),(.k (.int .i64 0)),(.k (.str ⟨#[]⟩)),.k .nils,.k .nils]),(.k (.int .i64 9))])]⟩]
theorem k72:ZGO Tryz.prog KD hint0 ZT5 inl 200 (ZKw s72) s72=some v72:=by kernel_rfl
theorem x72:VCs Tryz.prog KD v72:=by
 refine⟨fun ρ hs hf=> ?_,fun ρ hs hf=> ?_,fun ρ hs hf=> ?_,fun ρ hs hf=> ?_,trivial⟩
 ·simp only[A.dens,A.den]
  exact⟨_,_,0,rfl,fun j hj=> absurd hj (Nat.not_lt_zero j)⟩
 ·simp only[ZC8,ZCu,zy,Fact.ok,A.dens,A.den,Q.val] at hs hf⊢
  obtain⟨k0,k1,k29,k31, -⟩:=hs
  obtain⟨f0,f58,f59,f60,f61,f62,f63, -⟩:=hf
  obtain⟨i,e,h⟩:=ZOs f0
  obtain⟨N,n1,n2,n3⟩:=ZOe k0.1 f58 rfl rfl
  obtain⟨r,r1,r2⟩:=ZWM k29.1 k1.1 f60
  rw[f61] at r1
  cases r1
  obtain⟨j,e',hj⟩:=ZMi k31.1
  rw[e] at n1 f62 f63
  rw[e'] at f62 f63⊢
  simp only[V.intN] at n1 f62 f63
  obtain rfl:N=i:=by omega
  obtain rfl:j=N+1:=by omega
  refine⟨_,_,_,rfl,fun m hm hh=> ?_⟩
  rcases Nat.lt_succ_iff_lt_or_eq.1 hm with h1|rfl
  ·exact h m h1 hh
  ·unfold ZLk at hh
   rw[n3] at hh
   have q:=ZXt (ZMb k29.1) f59
   cases r2.2 (by rw[q];exact hh)
 ·simp only[ZC8,ZCu,zy,Fact.ok,A.dens,A.den,Q.val] at hs hf⊢
  obtain⟨k0,k1,k29,k32, -⟩:=hs
  obtain⟨f0,f58,f59,f60,f61,f62,f63,f64, -⟩:=hf
  obtain⟨i,e,h⟩:=ZOs f0
  obtain⟨N,n1,n2,n3⟩:=ZOe k0.1 f58 rfl rfl
  obtain⟨r,r1,r2⟩:=ZWM k29.1 k1.1 f60
  rw[f61] at r1
  cases r1
  have e1:V.intN (ρ 3)=i:=by rw[e];rfl
  rw[e1] at n1 f62 f63
  obtain rfl:N=i:=by omega
  obtain⟨g1,g2⟩:=ZZY k1.1 f64
  refine ZSz (i:=N) k0.1 k1.1 ⟨n2,?_,h⟩ ?_ ?_ g2
  ·unfold ZLk
   rw[n3]
   have q:=ZXt (ZMb k29.1) f59
   have r3:=r2.1 rfl
   rw[q] at r3
   exact r3
  ·show V.intN (ρ 32)=N
   omega
  ·rw[n3];exact g1
 ·simp only[ZC8,ZCu,zy,Fact.ok,A.dens,A.den,Q.val] at hs hf⊢
  obtain⟨k0,k1, -⟩:=hs
  obtain⟨f0,f11, -⟩:=hf
  obtain⟨i,e,h⟩:=ZOs f0
  rw[e] at f11
  simp only[V.intN] at f11
  exact ZVC k0.1 k1.1 fun j hj=> h j (by omega)
def v30:List VC:=[
 ⟨[(0,⟨(.sl 49 false 1048576),true⟩),(1,⟨(.str 1073741824),true⟩),(2,⟨(.int .i64),true⟩),(3,⟨(.int .i64),true⟩)],[.pr (fun l=> ZKR (vns l)) [.s 0,.s 1,(.tup [(.agg [.s 2,.s 3,.s 4,.s 5,.s 6,.s 7,.s 8,.s 9,.s 10]),(.k (.int .i64 0))])],.kb 11 true,.c .z (.v 2) (-3),.c (.v 2) .z 3,.el 0 (.v 3) 0 12 23],fun l=> ZGQ (vns l),[.s 0,.s 1,(.tup [(.agg [.s 13,.s 14,.s 15,.s 16,.s 17,.s 18,.s 19,.s 20,.s 21,.s 22,.s 23,.s 24,.s 25,.s 26,.s 27,.s 28,.s 29,.s 30,.s 31,.s 32,.s 33,.s 34,.s 35]),(.k (.int .i64 (-1))),(.k (.bool true))])]⟩,
 ⟨[(0,⟨(.sl 49 false 1048576),true⟩),(1,⟨(.str 1073741824),true⟩),(2,⟨(.int .i64),true⟩),(4,⟨(.int .i64),true⟩)],[.pr (fun l=> ZKR (vns l)) [.s 0,.s 1,(.tup [(.agg [.s 2,.s 3,.s 4,.s 5,.s 6,.s 7,.s 8,.s 9,.s 10]),(.k (.int .i64 0))])],.pr (eqQ true) [.s 2,(.k (.int .i64 3)),.s 11],.kb 11 false],fun l=> ZGQ (vns l),[.s 0,.s 1,(.tup [(.agg [.s 14,.s 15,.s 16,.s 17,.s 18,.s 19,.s 20,.s 21,.s 22,.s 23,.s 24,.s 25,.s 26,.s 27,.s 28,.s 29,.s 30,.s 31,.s 32,.s 33,.s 34,.s 35,.s 36]),.s 4,(.k (.bool true))])]⟩,
 ⟨[(0,⟨(.sl 49 false 1048576),true⟩),(1,⟨(.str 1073741824),true⟩),(2,⟨(.int .i64),true⟩)],[.pr (fun l=> ZKR (vns l)) [.s 0,.s 1,(.tup [(.agg [.s 2,.s 3,.s 4,.s 5,.s 6,.s 7,.s 8,.s 9,.s 10]),(.k (.int .i64 0))])],.pr (eqQ true) [.s 2,(.k (.int .i64 3)),.s 11],.kb 11 false],fun l=> ZGQ (vns l),[.s 0,.s 1,(.tup [(.agg [.s 15,.s 16,.s 17,.s 18,.s 19,.s 20,.s 21,.s 22,.s 23,.s 24,.s 25,.s 26,.s 27,.s 28,.s 29,.s 30,.s 31,.s 32,.s 33,.s 34,.s 35,.s 36,.s 37]),(.k (.int .i64 (-2))),(.k (.bool true))])]⟩,
 ⟨[(0,⟨(.sl 49 false 1048576),true⟩),(1,⟨(.str 1073741824),true⟩),(2,⟨(.int .i64),true⟩)],[.pr (fun l=> ZKR (vns l)) [.s 0,.s 1,(.tup [(.agg [.s 2,.s 3,.s 4,.s 5,.s 6,.s 7,.s 8,.s 9,.s 10]),(.k (.int .i64 0))])],.pr (eqQ true) [.s 2,(.k (.int .i64 3)),.s 11],.kb 11 false],fun l=> ZGQ (vns l),[.s 0,.s 1,(.tup [(.agg [(.k (.int .i64 0)),(.k (.str ⟨#[]⟩)),(.k (.int .i64 0)),(.k (.int .i64 0)),(.k (.int .i64 0)),(.k (.str ⟨#[]⟩)),.k .nils,.k .nils,(.k (.int .i64 0)),(.k (.int .i64 0)),(.k (.str ⟨#[]⟩)),.k .nils,.k .nils,(.k (.int .i64 0)),.k .nils,(.k (.int .i64 0)),(.k (.int .i64 0)),(.k (.int .i64 0)),(.k (.str ⟨#[]⟩)),.k .nils,.k .nils,.k .nils,.k .nils]),(.k (.int .i64 0)),(.k (.bool false))])]⟩,
 ⟨[(0,⟨(.sl 49 false 1048576),true⟩),(1,⟨(.str 1073741824),true⟩)],[.pr (fun l=> ZNg (vns l)) [.s 0,.s 1,(.tup [(.agg [.s 2,.s 3,.s 4,.s 5,.s 6,.s 7,.s 8,.s 9,.s 10]),(.k (.int .i64 9))])]],fun l=> ZGQ (vns l),[.s 0,.s 1,(.tup [(.agg [(.k (.int .i64 0)),(.k (.str ⟨#[]⟩)),(.k (.int .i64 0)),(.k (.int .i64 0)),(.k (.int .i64 0)),(.k (.str ⟨#[]⟩)),.k .nils,.k .nils,(.k (.int .i64 0)),(.k (.int .i64 0)),(.k (.str ⟨#[]⟩)),.k .nils,.k .nils,(.k (.int .i64 0)),.k .nils,(.k (.int .i64 0)),(.k (.int .i64 0)),(.k (.int .i64 0)),(.k (.str ⟨#[]⟩)),.k .nils,.k .nils,.k .nils,.k .nils]),(.k (.int .i64 0)),(.k (.bool false))])]⟩]
theorem k30:ZGO Tryz.prog KD hint0 ZT6 inl 200 (ZKw s30) s30=some v30:=by kernel_rfl
theorem x30:VCs Tryz.prog KD v30:=by
 refine⟨fun ρ hs hf=> ?_,fun ρ hs hf=> ?_,fun ρ hs hf=> ?_,fun ρ hs hf=> ?_,fun ρ hs hf=> ?_,trivial⟩
 ·simp only[ZC8,ZCu,zy,Fact.ok,A.dens,A.den,Q.val] at hs hf⊢
  obtain⟨k0,k1,k2,k3, -⟩:=hs
  obtain⟨f2,f6,f7,f8,f55, -⟩:=hf
  obtain⟨i,g1,g2,g3,g4⟩:=ZMI k0.1 k1.1 f2
  obtain⟨N,n1,n2,n3⟩:=ZOe k0.1 f55 rfl rfl
  have g2:V.intN (ρ 3)=i:=g2
  rw[g2] at n1
  obtain rfl:N=i:=by omega
  refine ZL5 k0.1 k1.1 ⟨fun _=> ⟨N,g1,g3.1 ?_,by rw[n3];rfl⟩,fun _=> ⟨rfl,rfl⟩⟩
  show V.intN (ρ 2)=3
  omega
 ·simp only[ZC8,ZCu,zy,Fact.ok,A.dens,A.den,Q.val] at hs hf⊢
  obtain⟨k0,k1,k2,k4, -⟩:=hs
  obtain⟨f2,f3,f6, -⟩:=hf
  obtain⟨i,g1,g2,g3,g4⟩:=ZMI k0.1 k1.1 f2
  obtain⟨m,e⟩:=tk_int k4.1
  have g4:0≤V.intN (ρ 4):=g4
  rw[e] at g4⊢
  simp only[V.intN] at g4
  refine ZL5 k0.1 k1.1 (ZMH (fun hh=> by omega) fun j hj hf=> eqN f3 f6 (ZKG k2.1 (g3.2 ?_)))
  rw[ZNh g1 hj];exact hf
 ·simp only[ZC8,ZCu,zy,Fact.ok,A.dens,A.den,Q.val] at hs hf⊢
  obtain⟨k0,k1,k2, -⟩:=hs
  obtain⟨f2,f3,f6, -⟩:=hf
  obtain⟨i,g1,g2,g3,g4⟩:=ZMI k0.1 k1.1 f2
  refine ZL5 k0.1 k1.1 (ZMH (fun hh=> by omega) fun j hj hf=> eqN f3 f6 (ZKG k2.1 (g3.2 ?_)))
  rw[ZNh g1 hj];exact hf
 ·simp only[ZC8,ZCu,zy,Fact.ok,A.dens,A.den,Q.val] at hs hf⊢
  obtain⟨k0,k1,k2, -⟩:=hs
  obtain⟨f2,f3,f6, -⟩:=hf
  obtain⟨i,g1,g2,g3,g4⟩:=ZMI k0.1 k1.1 f2
  refine ZL5 k0.1 k1.1 (ZMH (fun hh=> by cases hh.1) fun j hj hf=> eqN f3 f6 (ZKG k2.1 (g3.2 ?_)))
  rw[ZNh g1 hj];exact hf
 ·simp only[ZC8,ZCu,zy,Fact.ok,A.dens,A.den,Q.val] at hs hf⊢
  obtain⟨k0,k1, -⟩:=hs
  obtain⟨f0, -⟩:=hf
  exact ZL5 k0.1 k1.1 (ZMH (fun hh=> by cases hh.1) fun j hj _=> ZVB k0.1 k1.1 f0 j hj.1 hj.2.1)
end
end
end Go.Proofs.YtapdblnejhijnaaGreat.Eq
end
