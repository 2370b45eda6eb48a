/- Functions of terms: what they return. -/
import Derived.Test.YtapdblnejhijnaaGreatE1
set_option linter.all false
noncomputable section
namespace Go.Proofs.YtapdblnejhijnaaGreat.Eq
section
open Go Go.Ae
section
def v69:List VC:=[
 ⟨[(0,⟨(.sl 49 false 1048576),true⟩),(1,⟨(.str 1073741824),true⟩),(2,⟨(.int .i64),true⟩),(3,⟨(.int .i64),true⟩)],[.pr (fun l=> ZKR (vns l)) [.s 0,.s 1,(.tup [(.agg [.s 2,.s 3,.s 4,.s 5,.s 6,.s 7,.s 8,.s 9,.s 10]),(.k (.int .i64 0))])],.kb 11 true,.c .z (.v 2) (-3),.c (.v 2) .z 3,.el 0 (.v 3) 0 12 23],fun l=> ZGQ (vns l),[.s 0,.s 1,(.tup [(.agg [.s 13,.s 14,.s 15,.s 16,.s 17,.s 18,.s 19,.s 20,.s 21,.s 22,.s 23,.s 24,.s 25,.s 26,.s 27,.s 28,.s 29,.s 30,.s 31,.s 32,.s 33,.s 34,.s 35]),(.k (.int .i64 (-1))),(.k (.bool true))])]⟩,
 ⟨[(0,⟨(.sl 49 false 1048576),true⟩),(1,⟨(.str 1073741824),true⟩),(2,⟨(.int .i64),true⟩),(4,⟨(.int .i64),true⟩)],[.pr (fun l=> ZKR (vns l)) [.s 0,.s 1,(.tup [(.agg [.s 2,.s 3,.s 4,.s 5,.s 6,.s 7,.s 8,.s 9,.s 10]),(.k (.int .i64 0))])],.pr (eqQ true) [.s 2,(.k (.int .i64 3)),.s 11],.kb 11 false],fun l=> ZGQ (vns l),[.s 0,.s 1,(.tup [(.agg [.s 14,.s 15,.s 16,.s 17,.s 18,.s 19,.s 20,.s 21,.s 22,.s 23,.s 24,.s 25,.s 26,.s 27,.s 28,.s 29,.s 30,.s 31,.s 32,.s 33,.s 34,.s 35,.s 36]),.s 4,(.k (.bool true))])]⟩,
 ⟨[(0,⟨(.sl 49 false 1048576),true⟩),(1,⟨(.str 1073741824),true⟩),(2,⟨(.int .i64),true⟩)],[.pr (fun l=> ZKR (vns l)) [.s 0,.s 1,(.tup [(.agg [.s 2,.s 3,.s 4,.s 5,.s 6,.s 7,.s 8,.s 9,.s 10]),(.k (.int .i64 0))])],.pr (eqQ true) [.s 2,(.k (.int .i64 3)),.s 11],.kb 11 false],fun l=> ZGQ (vns l),[.s 0,.s 1,(.tup [(.agg [.s 15,.s 16,.s 17,.s 18,.s 19,.s 20,.s 21,.s 22,.s 23,.s 24,.s 25,.s 26,.s 27,.s 28,.s 29,.s 30,.s 31,.s 32,.s 33,.s 34,.s 35,.s 36,.s 37]),(.k (.int .i64 (-2))),(.k (.bool true))])]⟩,
 ⟨[(0,⟨(.sl 49 false 1048576),true⟩),(1,⟨(.str 1073741824),true⟩),(2,⟨(.int .i64),true⟩)],[.pr (fun l=> ZKR (vns l)) [.s 0,.s 1,(.tup [(.agg [.s 2,.s 3,.s 4,.s 5,.s 6,.s 7,.s 8,.s 9,.s 10]),(.k (.int .i64 0))])],.pr (eqQ true) [.s 2,(.k (.int .i64 3)),.s 11],.kb 11 false],fun l=> ZGQ (vns l),[.s 0,.s 1,(.tup [(.agg [(.k (.int .i64 0)),(.k (.str ⟨#[]⟩)),(.k (.int .i64 0)),(.k (.int .i64 0)),(.k (.int .i64 0)),(.k (.str ⟨#[]⟩)),.k .nils,.k .nils,(.k (.int .i64 0)),(.k (.int .i64 0)),(.k (.str ⟨#[]⟩)),.k .nils,.k .nils,(.k (.int .i64 0)),.k .nils,(.k (.int .i64 0)),(.k (.int .i64 0)),(.k (.int .i64 0)),(.k (.str ⟨#[]⟩)),.k .nils,.k .nils,.k .nils,.k .nils]),(.k (.int .i64 0)),(.k (.bool false))])]⟩,
 ⟨[(0,⟨(.sl 49 false 1048576),true⟩),(1,⟨(.str 1073741824),true⟩)],[.pr (fun l=> ZNg (vns l)) [.s 0,.s 1,(.tup [(.agg [.s 2,.s 3,.s 4,.s 5,.s 6,.s 7,.s 8,.s 9,.s 10]),(.k (.int .i64 9))])]],fun l=> ZGQ (vns l),[.s 0,.s 1,(.tup [(.agg [(.k (.int .i64 0)),(.k (.str ⟨#[]⟩)),(.k (.int .i64 0)),(.k (.int .i64 0)),(.k (.int .i64 0)),(.k (.str ⟨#[]⟩)),.k .nils,.k .nils,(.k (.int .i64 0)),(.k (.int .i64 0)),(.k (.str ⟨#[]⟩)),.k .nils,.k .nils,(.k (.int .i64 0)),.k .nils,(.k (.int .i64 0)),(.k (.int .i64 0)),(.k (.int .i64 0)),(.k (.str ⟨#[]⟩)),.k .nils,.k .nils,.k .nils,.k .nils]),(.k (.int .i64 0)),(.k (.bool false))])]⟩]
theorem k69:ZGO Tryz.prog KD hint0 ZT9 inl 200 (ZKw s69) s69=some v69:=by kernel_rfl
theorem x69:VCs Tryz.prog KD v69:=by
 refine⟨fun ρ hs hf=> ?_,fun ρ hs hf=> ?_,fun ρ hs hf=> ?_,fun ρ hs hf=> ?_,fun ρ hs hf=> ?_,trivial⟩
 ·simp only[ZC8,ZCu,zy,Fact.ok,A.dens,A.den,Q.val] at hs hf⊢
  obtain⟨k0,k1,k2,k3, -⟩:=hs
  obtain⟨f2,f6,f7,f8,f55, -⟩:=hf
  obtain⟨i,g1,g2,g3,g4⟩:=ZMI k0.1 k1.1 f2
  obtain⟨N,n1,n2,n3⟩:=ZOe k0.1 f55 rfl rfl
  have g2:V.intN (ρ 3)=i:=g2
  rw[g2] at n1
  obtain rfl:N=i:=by omega
  refine ZL5 k0.1 k1.1 ⟨fun _=> ⟨N,g1,g3.1 ?_,by rw[n3];rfl⟩,fun _=> ⟨rfl,rfl⟩⟩
  show V.intN (ρ 2)=3
  omega
 ·simp only[ZC8,ZCu,zy,Fact.ok,A.dens,A.den,Q.val] at hs hf⊢
  obtain⟨k0,k1,k2,k4, -⟩:=hs
  obtain⟨f2,f3,f6, -⟩:=hf
  obtain⟨i,g1,g2,g3,g4⟩:=ZMI k0.1 k1.1 f2
  obtain⟨m,e⟩:=tk_int k4.1
  have g4:0≤V.intN (ρ 4):=g4
  rw[e] at g4⊢
  simp only[V.intN] at g4
  refine ZL5 k0.1 k1.1 (ZMH (fun hh=> by omega) fun j hj hf=> eqN f3 f6 (ZKG k2.1 (g3.2 ?_)))
  rw[ZNh g1 hj];exact hf
 ·simp only[ZC8,ZCu,zy,Fact.ok,A.dens,A.den,Q.val] at hs hf⊢
  obtain⟨k0,k1,k2, -⟩:=hs
  obtain⟨f2,f3,f6, -⟩:=hf
  obtain⟨i,g1,g2,g3,g4⟩:=ZMI k0.1 k1.1 f2
  refine ZL5 k0.1 k1.1 (ZMH (fun hh=> by omega) fun j hj hf=> eqN f3 f6 (ZKG k2.1 (g3.2 ?_)))
  rw[ZNh g1 hj];exact hf
 ·simp only[ZC8,ZCu,zy,Fact.ok,A.dens,A.den,Q.val] at hs hf⊢
  obtain⟨k0,k1,k2, -⟩:=hs
  obtain⟨f2,f3,f6, -⟩:=hf
  obtain⟨i,g1,g2,g3,g4⟩:=ZMI k0.1 k1.1 f2
  refine ZL5 k0.1 k1.1 (ZMH (fun hh=> by cases hh.1) fun j hj hf=> eqN f3 f6 (ZKG k2.1 (g3.2 ?_)))
  rw[ZNh g1 hj];exact hf
 ·simp only[ZC8,ZCu,zy,Fact.ok,A.dens,A.den,Q.val] at hs hf⊢
  obtain⟨k0,k1, -⟩:=hs
  obtain⟨f0, -⟩:=hf
  exact ZL5 k0.1 k1.1 (ZMH (fun hh=> by cases hh.1) fun j hj _=> ZVB k0.1 k1.1 f0 j hj.1 hj.2.1)
def v31:List VC:=[
 ⟨[(23,⟨(.sl 26 false 9223372036854775807),false⟩)],[.pr (fun l=> ZKE (vns l)) [(.agg [.s 3,.s 4,.s 5,.s 6,.s 7]),(.tup [.s 23,(.agg [.s 24,.s 25,.s 26,.s 27,.s 28])])],.pr (eqQ false) [(.len 23),(.k (.int .i64 3)),.s 29],.kb 29 true],fun l=> ZK4 (vns l),[(.agg [.s 0,.s 1,.s 2,.s 3,.s 4,.s 5,.s 6,.s 7,.s 8,.s 9,.s 10,.s 11,.s 12,.s 13,.s 14,.s 15,.s 16,.s 17,.s 18,.s 19,.s 20,.s 21,.s 22]),(.k (.bool false))]⟩,
 ⟨[(23,⟨(.sl 26 false 9223372036854775807),false⟩),(31,⟨(.int .i64),true⟩)],[.pr (fun l=> ZKE (vns l)) [(.agg [.s 3,.s 4,.s 5,.s 6,.s 7]),(.tup [.s 23,(.agg [.s 24,.s 25,.s 26,.s 27,.s 28])])],.el 23 .z 0 30 5,.pr (eqQ false) [.s 31,(.k (.int .i64 2)),.s 36],.kb 36 true],fun l=> ZK4 (vns l),[(.agg [.s 0,.s 1,.s 2,.s 3,.s 4,.s 5,.s 6,.s 7,.s 8,.s 9,.s 10,.s 11,.s 12,.s 13,.s 14,.s 15,.s 16,.s 17,.s 18,.s 19,.s 20,.s 21,.s 22]),(.k (.bool false))]⟩,
 ⟨[(23,⟨(.sl 26 false 9223372036854775807),false⟩)],[.pr (fun l=> ZKE (vns l)) [(.agg [.s 3,.s 4,.s 5,.s 6,.s 7]),(.tup [.s 23,(.agg [.s 24,.s 25,.s 26,.s 27,.s 28])])],.el 23 .z 1 37 5,.pr (fun l=> ZEZ (vns l)) [(.agg [.s 38,.s 39,.s 40,.s 41,.s 42]),(.agg [(.k (.int .i64 0)),(.k (.int .i64 0)),(.k (.str ⟨#[]⟩)),.k .nils,.k .nils]),.s 43],.kb 43 false],fun l=> ZK4 (vns l),[(.agg [.s 0,.s 1,.s 2,.s 3,.s 4,.s 5,.s 6,.s 7,.s 8,.s 9,.s 10,.s 11,.s 12,.s 13,.s 14,.s 15,.s 16,.s 17,.s 18,.s 19,.s 20,.s 21,.s 22]),(.k (.bool false))]⟩,
 ⟨[(23,⟨(.sl 26 false 9223372036854775807),false⟩)],[.pr (fun l=> ZKE (vns l)) [(.agg [.s 3,.s 4,.s 5,.s 6,.s 7]),(.tup [.s 23,(.agg [.s 24,.s 25,.s 26,.s 27,.s 28])])],.el 23 .z 2 45 5,.pr (fun l=> ZEZ (vns l)) [(.agg [.s 46,.s 47,.s 48,.s 49,.s 50]),(.agg [(.k (.int .i64 0)),(.k (.int .i64 1)),(.k (.str ⟨#[]⟩)),.k .nils,.k .nils]),.s 51],.kb 51 false],fun l=> ZK4 (vns l),[(.agg [.s 0,.s 1,.s 2,.s 3,.s 4,.s 5,.s 6,.s 7,.s 8,.s 9,.s 10,.s 11,.s 12,.s 13,.s 14,.s 15,.s 16,.s 17,.s 18,.s 19,.s 20,.s 21,.s 22]),(.k (.bool false))]⟩,
 ⟨[(23,⟨(.sl 26 false 9223372036854775807),false⟩),(24,⟨(.int .i64),true⟩)],[.pr (fun l=> ZKE (vns l)) [(.agg [.s 3,.s 4,.s 5,.s 6,.s 7]),(.tup [.s 23,(.agg [.s 24,.s 25,.s 26,.s 27,.s 28])])],.pr (eqQ false) [.s 24,(.k (.int .i64 1)),.s 53],.kb 53 true,.pr (eqQ false) [.s 24,(.k (.int .i64 2)),.s 54],.kb 54 true],fun l=> ZK4 (vns l),[(.agg [.s 0,.s 1,.s 2,.s 3,.s 4,.s 5,.s 6,.s 7,.s 8,.s 9,.s 10,.s 11,.s 12,.s 13,.s 14,.s 15,.s 16,.s 17,.s 18,.s 19,.s 20,.s 21,.s 22]),(.k (.bool false))]⟩,
 ⟨[(14,⟨(.sl 91 false 1048576),true⟩),(23,⟨(.sl 26 false 9223372036854775807),false⟩)],[.pr (fun l=> ZKE (vns l)) [(.agg [.s 3,.s 4,.s 5,.s 6,.s 7]),(.tup [.s 23,(.agg [.s 24,.s 25,.s 26,.s 27,.s 28])])],.pr (eqQ false) [(.len 14),(.k (.int .i64 1)),.s 55],.kb 55 true],fun l=> ZK4 (vns l),[(.agg [.s 0,.s 1,.s 2,.s 3,.s 4,.s 5,.s 6,.s 7,.s 8,.s 9,.s 10,.s 11,.s 12,.s 13,.s 14,.s 15,.s 16,.s 17,.s 18,.s 19,.s 20,.s 21,.s 22]),(.k (.bool false))]⟩,
 ⟨[(14,⟨(.sl 91 false 1048576),true⟩),(23,⟨(.sl 26 false 9223372036854775807),false⟩),(57,⟨(.str 1048576),true⟩)],[.pr (fun l=> ZKE (vns l)) [(.agg [.s 3,.s 4,.s 5,.s 6,.s 7]),(.tup [.s 23,(.agg [.s 24,.s 25,.s 26,.s 27,.s 28])])],.el 14 .z 0 56 6,.pr (eqQ false) [.s 57,(.k (.str ⟨#[69,113,46,114,101,102,108]⟩)),.s 63],.kb 63 true],fun l=> ZK4 (vns l),[(.agg [.s 0,.s 1,.s 2,.s 3,.s 4,.s 5,.s 6,.s 7,.s 8,.s 9,.s 10,.s 11,.s 12,.s 13,.s 14,.s 15,.s 16,.s 17,.s 18,.s 19,.s 20,.s 21,.s 22]),(.k (.bool false))]⟩,
 ⟨[(14,⟨(.sl 91 false 1048576),true⟩),(23,⟨(.sl 26 false 9223372036854775807),false⟩),(24,⟨(.int .i64),true⟩),(31,⟨(.int .i64),true⟩),(57,⟨(.str 1048576),true⟩),(64,⟨(.sl 26 false 9223372036854775807),true⟩)],[.pr (fun l=> ZKE (vns l)) [(.agg [.s 3,.s 4,.s 5,.s 6,.s 7]),(.tup [.s 23,(.agg [.s 24,.s 25,.s 26,.s 27,.s 28])])],.pr (eqQ false) [(.len 23),(.k (.int .i64 3)),.s 29],.kb 29 false,.el 23 .z 0 30 5,.pr (eqQ false) [.s 31,(.k (.int .i64 2)),.s 36],.kb 36 false,.el 23 .z 1 37 5,.pr (fun l=> ZEZ (vns l)) [(.agg [.s 38,.s 39,.s 40,.s 41,.s 42]),(.agg [(.k (.int .i64 0)),(.k (.int .i64 0)),(.k (.str ⟨#[]⟩)),.k .nils,.k .nils]),.s 43],.kb 43 true,.el 23 .z 2 45 5,.pr (fun l=> ZEZ (vns l)) [(.agg [.s 46,.s 47,.s 48,.s 49,.s 50]),(.agg [(.k (.int .i64 0)),(.k (.int .i64 1)),(.k (.str ⟨#[]⟩)),.k .nils,.k .nils]),.s 51],.kb 51 true,.pr (eqQ false) [.s 24,(.k (.int .i64 2)),.s 54],.kb 54 false,.pr (eqQ false) [(.len 14),(.k (.int .i64 1)),.s 55],.kb 55 false,.el 14 .z 0 56 6,.pr (eqQ false) [.s 57,(.k (.str ⟨#[69,113,46,114,101,102,108]⟩)),.s 63],.kb 63 false,.pr (slQ false true) [.s 23,(.k (.int .i64 2)),.s 64],.pr (fun l=> ZL0 (vns l)) [(.agg [(.k (.int .i64 3)),(.k (.int .i64 0)),(.k (.str ⟨#[69,113]⟩)),(.lit [(.k (.int .i64 0)),(.lit [(.k (.int .i64 0)),(.k (.int .i64 0))] 1 2)] 1 2),.k .nils]),(.lit [(.k (.int .i64 0)),(.k (.int .i64 1)),(.k (.str ⟨#[]⟩)),.k .nils,.k .nils,(.k (.int .i64 0)),(.k (.int .i64 0)),(.k (.str ⟨#[]⟩)),.k .nils,.k .nils,(.k (.int .i64 0)),(.k (.int .i64 0)),(.k (.str ⟨#[]⟩)),.k .nils,.k .nils] 3 5),(.agg [.s 65,.s 66,.s 67,.s 68,.s 69])],.pr (fun l=> ZOc (vns l)) [(.k (.int .i64 6)),.s 64,(.agg [.s 65,.s 66,.s 67,.s 68,.s 69]),(.agg [.s 70,.s 71,.s 72,.s 73,.s 74])],.pr (fun l=> ZEZ (vns l)) [(.agg [.s 58,.s 59,.s 60,.s 61,.s 62]),(.agg [.s 70,.s 71,.s 72,.s 73,.s 74]),.s 75]],fun l=> ZK4 (vns l),[(.agg [.s 0,.s 1,.s 2,.s 3,.s 4,.s 5,.s 6,.s 7,.s 8,.s 9,.s 10,.s 11,.s 12,.s 13,.s 14,.s 15,.s 16,.s 17,.s 18,.s 19,.s 20,.s 21,.s 22]),.s 75]⟩,
 ⟨[(14,⟨(.sl 91 false 1048576),true⟩),(23,⟨(.sl 26 false 9223372036854775807),false⟩)],[.pr (fun l=> ZKE (vns l)) [(.agg [.s 3,.s 4,.s 5,.s 6,.s 7]),(.tup [.s 23,(.agg [.s 24,.s 25,.s 26,.s 27,.s 28])])],.pr (eqQ false) [(.len 14),(.k (.int .i64 1)),.s 54],.kb 54 true],fun l=> ZK4 (vns l),[(.agg [.s 0,.s 1,.s 2,.s 3,.s 4,.s 5,.s 6,.s 7,.s 8,.s 9,.s 10,.s 11,.s 12,.s 13,.s 14,.s 15,.s 16,.s 17,.s 18,.s 19,.s 20,.s 21,.s 22]),(.k (.bool false))]⟩,
 ⟨[(14,⟨(.sl 91 false 1048576),true⟩),(23,⟨(.sl 26 false 9223372036854775807),false⟩),(56,⟨(.str 1048576),true⟩)],[.pr (fun l=> ZKE (vns l)) [(.agg [.s 3,.s 4,.s 5,.s 6,.s 7]),(.tup [.s 23,(.agg [.s 24,.s 25,.s 26,.s 27,.s 28])])],.el 14 .z 0 55 6,.pr (eqQ false) [.s 56,(.k (.str ⟨#[69,113,46,114,101,102,108]⟩)),.s 62],.kb 62 true],fun l=> ZK4 (vns l),[(.agg [.s 0,.s 1,.s 2,.s 3,.s 4,.s 5,.s 6,.s 7,.s 8,.s 9,.s 10,.s 11,.s 12,.s 13,.s 14,.s 15,.s 16,.s 17,.s 18,.s 19,.s 20,.s 21,.s 22]),(.k (.bool false))]⟩,
 ⟨[(14,⟨(.sl 91 false 1048576),true⟩),(23,⟨(.sl 26 false 9223372036854775807),false⟩),(24,⟨(.int .i64),true⟩),(31,⟨(.int .i64),true⟩),(56,⟨(.str 1048576),true⟩),(63,⟨(.sl 26 false 9223372036854775807),true⟩)],[.pr (fun l=> ZKE (vns l)) [(.agg [.s 3,.s 4,.s 5,.s 6,.s 7]),(.tup [.s 23,(.agg [.s 24,.s 25,.s 26,.s 27,.s 28])])],.pr (eqQ false) [(.len 23),(.k (.int .i64 3)),.s 29],.kb 29 false,.el 23 .z 0 30 5,.pr (eqQ false) [.s 31,(.k (.int .i64 2)),.s 36],.kb 36 false,.el 23 .z 1 37 5,.pr (fun l=> ZEZ (vns l)) [(.agg [.s 38,.s 39,.s 40,.s 41,.s 42]),(.agg [(.k (.int .i64 0)),(.k (.int .i64 0)),(.k (.str ⟨#[]⟩)),.k .nils,.k .nils]),.s 43],.kb 43 true,.el 23 .z 2 45 5,.pr (fun l=> ZEZ (vns l)) [(.agg [.s 46,.s 47,.s 48,.s 49,.s 50]),(.agg [(.k (.int .i64 0)),(.k (.int .i64 1)),(.k (.str ⟨#[]⟩)),.k .nils,.k .nils]),.s 51],.kb 51 true,.pr (eqQ false) [.s 24,(.k (.int .i64 1)),.s 53],.kb 53 false,.pr (eqQ false) [(.len 14),(.k (.int .i64 1)),.s 54],.kb 54 false,.el 14 .z 0 55 6,.pr (eqQ false) [.s 56,(.k (.str ⟨#[69,113,46,114,101,102,108]⟩)),.s 62],.kb 62 false,.pr (slQ false true) [.s 23,(.k (.int .i64 2)),.s 63],.pr (fun l=> ZL0 (vns l)) [(.agg [(.k (.int .i64 3)),(.k (.int .i64 0)),(.k (.str ⟨#[69,113]⟩)),(.lit [(.k (.int .i64 0)),(.lit [(.k (.int .i64 0)),(.k (.int .i64 0))] 1 2)] 1 2),.k .nils]),(.lit [(.k (.int .i64 0)),(.k (.int .i64 1)),(.k (.str ⟨#[]⟩)),.k .nils,.k .nils,(.k (.int .i64 0)),(.k (.int .i64 0)),(.k (.str ⟨#[]⟩)),.k .nils,.k .nils,(.k (.int .i64 0)),(.k (.int .i64 0)),(.k (.str ⟨#[]⟩)),.k .nils,.k .nils] 3 5),(.agg [.s 64,.s 65,.s 66,.s 67,.s 68])],.pr (fun l=> ZOc (vns l)) [(.k (.int .i64 6)),.s 63,(.agg [.s 64,.s 65,.s 66,.s 67,.s 68]),(.agg [.s 69,.s 70,.s 71,.s 72,.s 73])],.pr (fun l=> ZEZ (vns l)) [(.agg [.s 57,.s 58,.s 59,.s 60,.s 61]),(.agg [.s 69,.s 70,.s 71,.s 72,.s 73]),.s 74]],fun l=> ZK4 (vns l),[(.agg [.s 0,.s 1,.s 2,.s 3,.s 4,.s 5,.s 6,.s 7,.s 8,.s 9,.s 10,.s 11,.s 12,.s 13,.s 14,.s 15,.s 16,.s 17,.s 18,.s 19,.s 20,.s 21,.s 22]),.s 74]⟩]
theorem k31:ZGO Tryz.prog KD hint0 ZUa inl 200 (ZKw s31) s31=some v31:=by kernel_rfl
theorem x31:VCs Tryz.prog KD v31:=by
 refine⟨fun ρ hs hf=> ?_,fun ρ hs hf=> ?_,fun ρ hs hf=> ?_,fun ρ hs hf=> ?_,fun ρ hs hf=> ?_,fun ρ hs hf=> ?_,fun ρ hs hf=> ?_,fun ρ hs hf=> ?_,fun ρ hs hf=> ?_,fun ρ hs hf=> ?_,fun ρ hs hf=> ?_,trivial⟩
 ·simp only[ZC8,ZCu,zy,Fact.ok,A.dens,A.den,Q.val] at hs hf⊢
  obtain⟨k23, -⟩:=hs
  obtain⟨f2,f3,f6, -⟩:=hf
  exact ZMx (ZKP f2) (fun h=> neT f3 f6 (by rw[(ZMh k23.1 rfl).1 h.1];rfl))
 ·simp only[ZC8,ZCu,zy,Fact.ok,A.dens,A.den,Q.val] at hs hf⊢
  obtain⟨k23,k31, -⟩:=hs
  obtain⟨f2,f19,f20,f23, -⟩:=hf
  exact ZMx (ZKP f2) (fun h=> neT f20 f23 (ZKG k31.1 ((ZOy k23.1 f19 rfl rfl k31.1).symm.trans h.2.1)))
 ·simp only[ZC8,ZCu,zy,Fact.ok,A.dens,A.den,Q.val] at hs hf⊢
  obtain⟨k23, -⟩:=hs
  obtain⟨f2,f36,f37,f41, -⟩:=hf
  exact ZMx (ZKP f2) (fun h=> ZLE f37 f41 (congrArg V.agg ((part k23.1 f36 rfl rfl (N:=1) rfl).symm.trans h.2.2.1)))
 ·simp only[ZC8,ZCu,zy,Fact.ok,A.dens,A.den,Q.val] at hs hf⊢
  obtain⟨k23, -⟩:=hs
  obtain⟨f2,f52,f53,f57, -⟩:=hf
  exact ZMx (ZKP f2) (fun h=> ZLE f53 f57 (congrArg V.agg ((part k23.1 f52 rfl rfl (N:=2) rfl).symm.trans h.2.2.2.1)))
 ·simp only[ZC8,ZCu,zy,Fact.ok,A.dens,A.den,Q.val] at hs hf⊢
  obtain⟨k23,k24, -⟩:=hs
  obtain⟨f2,f58,f61,f62,f65, -⟩:=hf
  exact ZMx (ZKP f2) (fun h=> h.2.2.2.2.1.elim (fun h1=> neT f58 f61 (ZKG k24.1 (by have h1:V.intN (dn (ρ 24))=1:=h1;rwa [ZKA k24.1] at h1))) (fun h1=> neT f62 f65 (ZKG k24.1 (by have h1:V.intN (dn (ρ 24))=2:=h1;rwa [ZKA k24.1] at h1))))
 ·simp only[ZC8,ZCu,zy,Fact.ok,A.dens,A.den,Q.val] at hs hf⊢
  obtain⟨k14,k23, -⟩:=hs
  obtain⟨f2,f68,f71, -⟩:=hf
  exact ZMx (ZKP f2) (fun h=> neT f68 f71 (by rw[(ZOI k14.1 h.2.2.2.2.2).2];rfl))
 ·simp only[ZC8,ZCu,zy,Fact.ok,A.dens,A.den,Q.val] at hs hf⊢
  obtain⟨k14,k23,k57, -⟩:=hs
  obtain⟨f2,f86,f87,f88, -⟩:=hf
  exact ZMx (ZKP f2) (fun h=> by
 obtain⟨l,hl⟩:=ZSA k14.1 f86 rfl rfl
 have h2:=(ZOI k14.1 h.2.2.2.2.2).1
 rw[hl,ZMk k57.1] at h2
 exact neT f87 f88 (List.cons.inj h2).1)
 ·simp only[ZC8,ZCu,zy,Fact.ok,A.dens,A.den,Q.val] at hs hf⊢
  obtain⟨k14,k23,k24,k31,k57,k64, -⟩:=hs
  obtain⟨f2,f3,f6,f19,f20,f23,f36,f37,f41,f52,f53,f57,f62,f65,f68,f71,f86,f87,f88,f89,f95,f96,f97, -⟩:=hf
  have B1:(dns (slC (ρ 23))).length=15:=(ZMh k23.1 rfl).2 (ZLm (neF f3 f6))
  have B2:kd (dns (slC (ρ 23)))=2:=by rw[ZOy k23.1 f19 rfl rfl k31.1,neF f20 f23];rfl
  have B3:((dns (slC (ρ 23))).drop 5).take 5=ZGL 0:=(part k23.1 f36 rfl rfl (N:=1) rfl).trans (ZLo (ZLD f37 f41))
  have B4:((dns (slC (ρ 23))).drop 10).take 5=ZGL 1:=(part k23.1 f52 rfl rfl (N:=2) rfl).trans (ZLo (ZLD f53 f57))
  have B5:kd (dns [ρ 24,ρ 25,ρ 26,ρ 27,ρ 28])=1∨kd (dns [ρ 24,ρ 25,ρ 26,ρ 27,ρ 28])=2:=Or.inr (by show V.intN (dn (ρ 24))=2;rw[neF f62 f65];rfl)
  have C1:dn (ρ 14)=.vs (ZOF::dns [ρ 58,ρ 59,ρ 60,ρ 61,ρ 62]) 1 0 .lock:=by
   rw[ZRx k14.1 (ZLm (neF f68 f71)) f86 rfl rfl]
   show V.vs (dn (ρ 57)::dns [ρ 58,ρ 59,ρ 60,ρ 61,ρ 62]) 1 0 .lock=_
   rw[neF f87 f88];rfl
  have R1:dns [ρ 65,ρ 66,ρ 67,ρ 68,ρ 69]=mkT 4 (mkT 4 (mkT 4 eqC (ZGL 1)) (ZGL 0)) (ZGL 0):=ZPM (a:=ZGL 1) (b:=ZGL 0) (c:=ZGL 0) (ZPL (by intro l h;cases h) f95) rfl rfl rfl
  have R2:=ZVb (ZMb k64.1) f96
  rw[ZYs k23.1 rfl f89,ZVr,ZYG,B3] at R2
  have R3:=ZVc R2 (by rw[List.length_take,B1];rfl) rfl
  obtain⟨r,e,hr⟩:=ZMX f97
  rw[e]
  refine ZTD (ZKP f2) (ZRF B1 B2 B3 B4 B5 C1 (hr.trans ?_))
  show V.agg (dns [ρ 58,ρ 59,ρ 60,ρ 61,ρ 62])=V.agg (dns [ρ 70,ρ 71,ρ 72,ρ 73,ρ 74])↔_
  rw[V.agg.injEq,R3,R1]
  exact Iff.rfl
 ·simp only[ZC8,ZCu,zy,Fact.ok,A.dens,A.den,Q.val] at hs hf⊢
  obtain⟨k14,k23, -⟩:=hs
  obtain⟨f2,f64,f67, -⟩:=hf
  exact ZMx (ZKP f2) (fun h=> neT f64 f67 (by rw[(ZOI k14.1 h.2.2.2.2.2).2];rfl))
 ·simp only[ZC8,ZCu,zy,Fact.ok,A.dens,A.den,Q.val] at hs hf⊢
  obtain⟨k14,k23,k56, -⟩:=hs
  obtain⟨f2,f82,f83,f84, -⟩:=hf
  exact ZMx (ZKP f2) (fun h=> by
 obtain⟨l,hl⟩:=ZSA k14.1 f82 rfl rfl
 have h2:=(ZOI k14.1 h.2.2.2.2.2).1
 rw[hl,ZMk k56.1] at h2
 exact neT f83 f84 (List.cons.inj h2).1)
 ·simp only[ZC8,ZCu,zy,Fact.ok,A.dens,A.den,Q.val] at hs hf⊢
  obtain⟨k14,k23,k24,k31,k56,k63, -⟩:=hs
  obtain⟨f2,f3,f6,f19,f20,f23,f36,f37,f41,f52,f53,f57,f58,f61,f64,f67,f82,f83,f84,f85,f91,f92,f93, -⟩:=hf
  have B1:(dns (slC (ρ 23))).length=15:=(ZMh k23.1 rfl).2 (ZLm (neF f3 f6))
  have B2:kd (dns (slC (ρ 23)))=2:=by rw[ZOy k23.1 f19 rfl rfl k31.1,neF f20 f23];rfl
  have B3:((dns (slC (ρ 23))).drop 5).take 5=ZGL 0:=(part k23.1 f36 rfl rfl (N:=1) rfl).trans (ZLo (ZLD f37 f41))
  have B4:((dns (slC (ρ 23))).drop 10).take 5=ZGL 1:=(part k23.1 f52 rfl rfl (N:=2) rfl).trans (ZLo (ZLD f53 f57))
  have B5:kd (dns [ρ 24,ρ 25,ρ 26,ρ 27,ρ 28])=1∨kd (dns [ρ 24,ρ 25,ρ 26,ρ 27,ρ 28])=2:=Or.inl (by show V.intN (dn (ρ 24))=1;rw[neF f58 f61];rfl)
  have C1:dn (ρ 14)=.vs (ZOF::dns [ρ 57,ρ 58,ρ 59,ρ 60,ρ 61]) 1 0 .lock:=by
   rw[ZRx k14.1 (ZLm (neF f64 f67)) f82 rfl rfl]
   show V.vs (dn (ρ 56)::dns [ρ 57,ρ 58,ρ 59,ρ 60,ρ 61]) 1 0 .lock=_
   rw[neF f83 f84];rfl
  have R1:dns [ρ 64,ρ 65,ρ 66,ρ 67,ρ 68]=mkT 4 (mkT 4 (mkT 4 eqC (ZGL 1)) (ZGL 0)) (ZGL 0):=ZPM (a:=ZGL 1) (b:=ZGL 0) (c:=ZGL 0) (ZPL (by intro l h;cases h) f91) rfl rfl rfl
  have R2:=ZVb (ZMb k63.1) f92
  rw[ZYs k23.1 rfl f85,ZVr,ZYG,B3] at R2
  have R3:=ZVc R2 (by rw[List.length_take,B1];rfl) rfl
  obtain⟨r,e,hr⟩:=ZMX f93
  rw[e]
  refine ZTD (ZKP f2) (ZRF B1 B2 B3 B4 B5 C1 (hr.trans ?_))
  show V.agg (dns [ρ 57,ρ 58,ρ 59,ρ 60,ρ 61])=V.agg (dns [ρ 69,ρ 70,ρ 71,ρ 72,ρ 73])↔_
  rw[V.agg.injEq,R3,R1]
  exact Iff.rfl
end
section
def v28:List VC:=[
 ⟨[(0,⟨(.sl 49 false 1048576),true⟩)],[.pr (fun l=> ZGQ (vns l)) [.s 0,(.k (.str ⟨#[69,113]⟩)),(.tup [(.agg [.s 1,.s 2,.s 3,.s 4,.s 5,.s 6,.s 7,.s 8,.s 9,.s 10,.s 11,.s 12,.s 13,.s 14,.s 15,.s 16,.s 17,.s 18,.s 19,.s 20,.s 21,.s 22,.s 23]),.s 24,(.k (.bool true))])],.pr (eqQ false) [.s 24,(.k (.int .i64 (-1))),.s 25],.kb 25 true],fun l=> ZKQ (vns l),[.s 0,(.k (.bool false))]⟩,
 ⟨[(0,⟨(.sl 49 false 1048576),true⟩),(3,⟨(.int .i64),true⟩)],[.pr (fun l=> ZGQ (vns l)) [.s 0,(.k (.str ⟨#[69,113]⟩)),(.tup [(.agg [.s 1,.s 2,.s 3,.s 4,.s 5,.s 6,.s 7,.s 8,.s 9,.s 10,.s 11,.s 12,.s 13,.s 14,.s 15,.s 16,.s 17,.s 18,.s 19,.s 20,.s 21,.s 22,.s 23]),.s 24,(.k (.bool true))])],.pr (eqQ false) [.s 3,(.k (.int .i64 1)),.s 26],.kb 26 true],fun l=> ZKQ (vns l),[.s 0,(.k (.bool false))]⟩,
 ⟨[(0,⟨(.sl 49 false 1048576),true⟩),(14,⟨(.int .i64),true⟩)],[.pr (fun l=> ZGQ (vns l)) [.s 0,(.k (.str ⟨#[69,113]⟩)),(.tup [(.agg [.s 1,.s 2,.s 3,.s 4,.s 5,.s 6,.s 7,.s 8,.s 9,.s 10,.s 11,.s 12,.s 13,.s 14,.s 15,.s 16,.s 17,.s 18,.s 19,.s 20,.s 21,.s 22,.s 23]),.s 24,(.k (.bool true))])],.pr (eqQ false) [.s 14,(.k (.int .i64 2)),.s 27],.kb 27 true],fun l=> ZKQ (vns l),[.s 0,(.k (.bool false))]⟩,
 ⟨[(0,⟨(.sl 49 false 1048576),true⟩),(15,⟨(.sl 91 false 1048576),true⟩)],[.pr (fun l=> ZGQ (vns l)) [.s 0,(.k (.str ⟨#[69,113]⟩)),(.tup [(.agg [.s 1,.s 2,.s 3,.s 4,.s 5,.s 6,.s 7,.s 8,.s 9,.s 10,.s 11,.s 12,.s 13,.s 14,.s 15,.s 16,.s 17,.s 18,.s 19,.s 20,.s 21,.s 22,.s 23]),.s 24,(.k (.bool true))])],.pr (eqQ false) [(.len 15),(.k (.int .i64 1)),.s 28],.kb 28 true],fun l=> ZKQ (vns l),[.s 0,(.k (.bool false))]⟩,
 ⟨[(0,⟨(.sl 49 false 1048576),true⟩),(15,⟨(.sl 91 false 1048576),true⟩),(30,⟨(.str 1048576),true⟩)],[.pr (fun l=> ZGQ (vns l)) [.s 0,(.k (.str ⟨#[69,113]⟩)),(.tup [(.agg [.s 1,.s 2,.s 3,.s 4,.s 5,.s 6,.s 7,.s 8,.s 9,.s 10,.s 11,.s 12,.s 13,.s 14,.s 15,.s 16,.s 17,.s 18,.s 19,.s 20,.s 21,.s 22,.s 23]),.s 24,(.k (.bool true))])],.el 15 .z 0 29 6,.pr (eqQ false) [.s 30,(.k (.str ⟨#[69,113,46,114,101,102,108]⟩)),.s 36],.kb 36 true],fun l=> ZKQ (vns l),[.s 0,(.k (.bool false))]⟩,
 ⟨[(0,⟨(.sl 49 false 1048576),true⟩),(16,⟨(.int .i64),true⟩)],[.pr (fun l=> ZGQ (vns l)) [.s 0,(.k (.str ⟨#[69,113]⟩)),(.tup [(.agg [.s 1,.s 2,.s 3,.s 4,.s 5,.s 6,.s 7,.s 8,.s 9,.s 10,.s 11,.s 12,.s 13,.s 14,.s 15,.s 16,.s 17,.s 18,.s 19,.s 20,.s 21,.s 22,.s 23]),.s 24,(.k (.bool true))])],.pr (eqQ false) [.s 16,(.k (.int .i64 2)),.s 37],.kb 37 true],fun l=> ZKQ (vns l),[.s 0,(.k (.bool false))]⟩,
 ⟨[(0,⟨(.sl 49 false 1048576),true⟩),(38,⟨(.sl 26 false 9223372036854775807),false⟩)],[.pr (fun l=> ZGQ (vns l)) [.s 0,(.k (.str ⟨#[69,113]⟩)),(.tup [(.agg [.s 1,.s 2,.s 3,.s 4,.s 5,.s 6,.s 7,.s 8,.s 9,.s 10,.s 11,.s 12,.s 13,.s 14,.s 15,.s 16,.s 17,.s 18,.s 19,.s 20,.s 21,.s 22,.s 23]),.s 24,(.k (.bool true))])],.pr (fun l=> ZKE (vns l)) [(.agg [.s 4,.s 5,.s 6,.s 7,.s 8]),(.tup [.s 38,(.agg [.s 39,.s 40,.s 41,.s 42,.s 43])])],.pr (eqQ false) [(.len 38),(.k (.int .i64 3)),.s 44],.kb 44 true],fun l=> ZKQ (vns l),[.s 0,(.k (.bool false))]⟩,
 ⟨[(0,⟨(.sl 49 false 1048576),true⟩),(38,⟨(.sl 26 false 9223372036854775807),false⟩),(46,⟨(.int .i64),true⟩)],[.pr (fun l=> ZGQ (vns l)) [.s 0,(.k (.str ⟨#[69,113]⟩)),(.tup [(.agg [.s 1,.s 2,.s 3,.s 4,.s 5,.s 6,.s 7,.s 8,.s 9,.s 10,.s 11,.s 12,.s 13,.s 14,.s 15,.s 16,.s 17,.s 18,.s 19,.s 20,.s 21,.s 22,.s 23]),.s 24,(.k (.bool true))])],.pr (fun l=> ZKE (vns l)) [(.agg [.s 4,.s 5,.s 6,.s 7,.s 8]),(.tup [.s 38,(.agg [.s 39,.s 40,.s 41,.s 42,.s 43])])],.el 38 .z 0 45 5,.pr (eqQ false) [.s 46,(.k (.int .i64 2)),.s 51],.kb 51 true],fun l=> ZKQ (vns l),[.s 0,(.k (.bool false))]⟩,
 ⟨[(0,⟨(.sl 49 false 1048576),true⟩),(38,⟨(.sl 26 false 9223372036854775807),false⟩)],[.pr (fun l=> ZGQ (vns l)) [.s 0,(.k (.str ⟨#[69,113]⟩)),(.tup [(.agg [.s 1,.s 2,.s 3,.s 4,.s 5,.s 6,.s 7,.s 8,.s 9,.s 10,.s 11,.s 12,.s 13,.s 14,.s 15,.s 16,.s 17,.s 18,.s 19,.s 20,.s 21,.s 22,.s 23]),.s 24,(.k (.bool true))])],.pr (fun l=> ZKE (vns l)) [(.agg [.s 4,.s 5,.s 6,.s 7,.s 8]),(.tup [.s 38,(.agg [.s 39,.s 40,.s 41,.s 42,.s 43])])],.el 38 .z 1 52 5,.pr (fun l=> ZEZ (vns l)) [(.agg [.s 53,.s 54,.s 55,.s 56,.s 57]),(.agg [(.k (.int .i64 0)),(.k (.int .i64 0)),(.k (.str ⟨#[]⟩)),.k .nils,.k .nils]),.s 58],.kb 58 false],fun l=> ZKQ (vns l),[.s 0,(.k (.bool false))]⟩,
 ⟨[(0,⟨(.sl 49 false 1048576),true⟩),(38,⟨(.sl 26 false 9223372036854775807),false⟩)],[.pr (fun l=> ZGQ (vns l)) [.s 0,(.k (.str ⟨#[69,113]⟩)),(.tup [(.agg [.s 1,.s 2,.s 3,.s 4,.s 5,.s 6,.s 7,.s 8,.s 9,.s 10,.s 11,.s 12,.s 13,.s 14,.s 15,.s 16,.s 17,.s 18,.s 19,.s 20,.s 21,.s 22,.s 23]),.s 24,(.k (.bool true))])],.pr (fun l=> ZKE (vns l)) [(.agg [.s 4,.s 5,.s 6,.s 7,.s 8]),(.tup [.s 38,(.agg [.s 39,.s 40,.s 41,.s 42,.s 43])])],.el 38 .z 2 60 5,.pr (fun l=> ZEZ (vns l)) [(.agg [.s 61,.s 62,.s 63,.s 64,.s 65]),(.agg [(.k (.int .i64 0)),(.k (.int .i64 1)),(.k (.str ⟨#[]⟩)),.k .nils,.k .nils]),.s 66],.kb 66 false],fun l=> ZKQ (vns l),[.s 0,(.k (.bool false))]⟩,
 ⟨[(0,⟨(.sl 49 false 1048576),true⟩),(38,⟨(.sl 26 false 9223372036854775807),false⟩),(39,⟨(.int .i64),true⟩)],[.pr (fun l=> ZGQ (vns l)) [.s 0,(.k (.str ⟨#[69,113]⟩)),(.tup [(.agg [.s 1,.s 2,.s 3,.s 4,.s 5,.s 6,.s 7,.s 8,.s 9,.s 10,.s 11,.s 12,.s 13,.s 14,.s 15,.s 16,.s 17,.s 18,.s 19,.s 20,.s 21,.s 22,.s 23]),.s 24,(.k (.bool true))])],.pr (fun l=> ZKE (vns l)) [(.agg [.s 4,.s 5,.s 6,.s 7,.s 8]),(.tup [.s 38,(.agg [.s 39,.s 40,.s 41,.s 42,.s 43])])],.pr (eqQ false) [.s 39,(.k (.int .i64 1)),.s 68],.kb 68 true,.pr (eqQ false) [.s 39,(.k (.int .i64 2)),.s 69],.kb 69 true],fun l=> ZKQ (vns l),[.s 0,(.k (.bool false))]⟩,
 ⟨[(0,⟨(.sl 49 false 1048576),true⟩),(3,⟨(.int .i64),true⟩),(14,⟨(.int .i64),true⟩),(15,⟨(.sl 91 false 1048576),true⟩),(16,⟨(.int .i64),true⟩),(30,⟨(.str 1048576),true⟩),(38,⟨(.sl 26 false 9223372036854775807),false⟩),(39,⟨(.int .i64),true⟩),(46,⟨(.int .i64),true⟩),(47,⟨(.int .i64),true⟩),(48,⟨(.str 1048576),true⟩),(49,⟨(.sl 53 false 1048576),true⟩),(50,⟨(.sl 26 false 1048576),true⟩),(70,⟨(.int .i64),true⟩),(71,⟨(.int .i64),true⟩),(72,⟨(.str 1048576),true⟩),(73,⟨(.sl 53 false 1048576),true⟩),(74,⟨(.sl 26 false 1048576),true⟩)],[.pr (fun l=> ZGQ (vns l)) [.s 0,(.k (.str ⟨#[69,113]⟩)),(.tup [(.agg [.s 1,.s 2,.s 3,.s 4,.s 5,.s 6,.s 7,.s 8,.s 9,.s 10,.s 11,.s 12,.s 13,.s 14,.s 15,.s 16,.s 17,.s 18,.s 19,.s 20,.s 21,.s 22,.s 23]),.s 24,(.k (.bool true))])],.pr (eqQ false) [.s 24,(.k (.int .i64 (-1))),.s 25],.kb 25 false,.pr (eqQ false) [.s 3,(.k (.int .i64 1)),.s 26],.kb 26 false,.pr (eqQ false) [.s 14,(.k (.int .i64 2)),.s 27],.kb 27 false,.pr (eqQ false) [(.len 15),(.k (.int .i64 1)),.s 28],.kb 28 false,.el 15 .z 0 29 6,.pr (eqQ false) [.s 30,(.k (.str ⟨#[69,113,46,114,101,102,108]⟩)),.s 36],.kb 36 false,.pr (eqQ false) [.s 16,(.k (.int .i64 2)),.s 37],.kb 37 false,.pr (fun l=> ZKE (vns l)) [(.agg [.s 4,.s 5,.s 6,.s 7,.s 8]),(.tup [.s 38,(.agg [.s 39,.s 40,.s 41,.s 42,.s 43])])],.pr (eqQ false) [(.len 38),(.k (.int .i64 3)),.s 44],.kb 44 false,.el 38 .z 0 45 5,.pr (eqQ false) [.s 46,(.k (.int .i64 2)),.s 51],.kb 51 false,.el 38 .z 1 52 5,.pr (fun l=> ZEZ (vns l)) [(.agg [.s 53,.s 54,.s 55,.s 56,.s 57]),(.agg [(.k (.int .i64 0)),(.k (.int .i64 0)),(.k (.str ⟨#[]⟩)),.k .nils,.k .nils]),.s 58],.kb 58 true,.el 38 .z 2 60 5,.pr (fun l=> ZEZ (vns l)) [(.agg [.s 61,.s 62,.s 63,.s 64,.s 65]),(.agg [(.k (.int .i64 0)),(.k (.int .i64 1)),(.k (.str ⟨#[]⟩)),.k .nils,.k .nils]),.s 66],.kb 66 true,.pr (eqQ false) [.s 39,(.k (.int .i64 2)),.s 69],.kb 69 false,.pr (fun l=> ZL0 (vns l)) [(.agg [(.k (.int .i64 3)),(.k (.int .i64 0)),(.k (.str ⟨#[69,113]⟩)),(.lit [(.k (.int .i64 0)),(.lit [(.k (.int .i64 0)),(.k (.int .i64 0))] 1 2)] 1 2),.k .nils]),(.lit [(.k (.int .i64 0)),(.k (.int .i64 1)),(.k (.str ⟨#[]⟩)),.k .nils,.k .nils,(.k (.int .i64 0)),(.k (.int .i64 0)),(.k (.str ⟨#[]⟩)),.k .nils,.k .nils,(.k (.int .i64 0)),(.k (.int .i64 0)),(.k (.str ⟨#[]⟩)),.k .nils,.k .nils] 3 5),(.agg [.s 70,.s 71,.s 72,.s 73,.s 74])],.pr (fun l=> ZEZ (vns l)) [(.agg [.s 31,.s 32,.s 33,.s 34,.s 35]),(.agg [(.k (.int .i64 6)),(.k (.int .i64 0)),(.k (.str ⟨#[]⟩)),.k .nils,(.lit [.s 46,.s 47,.s 48,.s 49,.s 50,(.k (.int .i64 6)),(.k (.int .i64 0)),(.k (.str ⟨#[]⟩)),.k .nils,(.lit [(.k (.int .i64 0)),(.k (.int .i64 0)),(.k (.str ⟨#[]⟩)),.k .nils,.k .nils,.s 70,.s 71,.s 72,.s 73,.s 74] 2 5)] 2 5)]),.s 75]],fun l=> ZKQ (vns l),[.s 0,.s 75]⟩,
 ⟨[(0,⟨(.sl 49 false 1048576),true⟩),(3,⟨(.int .i64),true⟩),(14,⟨(.int .i64),true⟩),(15,⟨(.sl 91 false 1048576),true⟩),(16,⟨(.int .i64),true⟩),(30,⟨(.str 1048576),true⟩),(38,⟨(.sl 26 false 9223372036854775807),false⟩),(39,⟨(.int .i64),true⟩),(46,⟨(.int .i64),true⟩),(47,⟨(.int .i64),true⟩),(48,⟨(.str 1048576),true⟩),(49,⟨(.sl 53 false 1048576),true⟩),(50,⟨(.sl 26 false 1048576),true⟩),(69,⟨(.int .i64),true⟩),(70,⟨(.int .i64),true⟩),(71,⟨(.str 1048576),true⟩),(72,⟨(.sl 53 false 1048576),true⟩),(73,⟨(.sl 26 false 1048576),true⟩)],[.pr (fun l=> ZGQ (vns l)) [.s 0,(.k (.str ⟨#[69,113]⟩)),(.tup [(.agg [.s 1,.s 2,.s 3,.s 4,.s 5,.s 6,.s 7,.s 8,.s 9,.s 10,.s 11,.s 12,.s 13,.s 14,.s 15,.s 16,.s 17,.s 18,.s 19,.s 20,.s 21,.s 22,.s 23]),.s 24,(.k (.bool true))])],.pr (eqQ false) [.s 24,(.k (.int .i64 (-1))),.s 25],.kb 25 false,.pr (eqQ false) [.s 3,(.k (.int .i64 1)),.s 26],.kb 26 false,.pr (eqQ false) [.s 14,(.k (.int .i64 2)),.s 27],.kb 27 false,.pr (eqQ false) [(.len 15),(.k (.int .i64 1)),.s 28],.kb 28 false,.el 15 .z 0 29 6,.pr (eqQ false) [.s 30,(.k (.str ⟨#[69,113,46,114,101,102,108]⟩)),.s 36],.kb 36 false,.pr (eqQ false) [.s 16,(.k (.int .i64 2)),.s 37],.kb 37 false,.pr (fun l=> ZKE (vns l)) [(.agg [.s 4,.s 5,.s 6,.s 7,.s 8]),(.tup [.s 38,(.agg [.s 39,.s 40,.s 41,.s 42,.s 43])])],.pr (eqQ false) [(.len 38),(.k (.int .i64 3)),.s 44],.kb 44 false,.el 38 .z 0 45 5,.pr (eqQ false) [.s 46,(.k (.int .i64 2)),.s 51],.kb 51 false,.el 38 .z 1 52 5,.pr (fun l=> ZEZ (vns l)) [(.agg [.s 53,.s 54,.s 55,.s 56,.s 57]),(.agg [(.k (.int .i64 0)),(.k (.int .i64 0)),(.k (.str ⟨#[]⟩)),.k .nils,.k .nils]),.s 58],.kb 58 true,.el 38 .z 2 60 5,.pr (fun l=> ZEZ (vns l)) [(.agg [.s 61,.s 62,.s 63,.s 64,.s 65]),(.agg [(.k (.int .i64 0)),(.k (.int .i64 1)),(.k (.str ⟨#[]⟩)),.k .nils,.k .nils]),.s 66],.kb 66 true,.pr (eqQ false) [.s 39,(.k (.int .i64 1)),.s 68],.kb 68 false,.pr (fun l=> ZL0 (vns l)) [(.agg [(.k (.int .i64 3)),(.k (.int .i64 0)),(.k (.str ⟨#[69,113]⟩)),(.lit [(.k (.int .i64 0)),(.lit [(.k (.int .i64 0)),(.k (.int .i64 0))] 1 2)] 1 2),.k .nils]),(.lit [(.k (.int .i64 0)),(.k (.int .i64 1)),(.k (.str ⟨#[]⟩)),.k .nils,.k .nils,(.k (.int .i64 0)),(.k (.int .i64 0)),(.k (.str ⟨#[]⟩)),.k .nils,.k .nils,(.k (.int .i64 0)),(.k (.int .i64 0)),(.k (.str ⟨#[]⟩)),.k .nils,.k .nils] 3 5),(.agg [.s 69,.s 70,.s 71,.s 72,.s 73])],.pr (fun l=> ZEZ (vns l)) [(.agg [.s 31,.s 32,.s 33,.s 34,.s 35]),(.agg [(.k (.int .i64 6)),(.k (.int .i64 0)),(.k (.str ⟨#[]⟩)),.k .nils,(.lit [.s 46,.s 47,.s 48,.s 49,.s 50,(.k (.int .i64 6)),(.k (.int .i64 0)),(.k (.str ⟨#[]⟩)),.k .nils,(.lit [(.k (.int .i64 0)),(.k (.int .i64 0)),(.k (.str ⟨#[]⟩)),.k .nils,.k .nils,.s 69,.s 70,.s 71,.s 72,.s 73] 2 5)] 2 5)]),.s 74]],fun l=> ZKQ (vns l),[.s 0,.s 74]⟩,
 ⟨[(0,⟨(.sl 49 false 1048576),true⟩)],[.pr (fun l=> ZGQ (vns l)) [.s 0,(.k (.str ⟨#[69,113]⟩)),(.tup [(.agg [.s 1,.s 2,.s 3,.s 4,.s 5,.s 6,.s 7,.s 8,.s 9,.s 10,.s 11,.s 12,.s 13,.s 14,.s 15,.s 16,.s 17,.s 18,.s 19,.s 20,.s 21,.s 22,.s 23]),.s 24,(.k (.bool false))])]],fun l=> ZKQ (vns l),[.s 0,(.k (.bool false))]⟩]
theorem k28:ZGO Tryz.prog KD hint0 ZUb inl 200 (ZKw s28) s28=some v28:=by kernel_rfl
theorem x28:VCs Tryz.prog KD v28:=by
 refine⟨fun ρ hs hf=> ?_,fun ρ hs hf=> ?_,fun ρ hs hf=> ?_,fun ρ hs hf=> ?_,fun ρ hs hf=> ?_,fun ρ hs hf=> ?_,fun ρ hs hf=> ?_,fun ρ hs hf=> ?_,fun ρ hs hf=> ?_,fun ρ hs hf=> ?_,fun ρ hs hf=> ?_,fun ρ hs hf=> ?_,fun ρ hs hf=> ?_,fun ρ hs hf=> ?_,trivial⟩
 ·simp only[ZC8,ZCu,zy,Fact.ok,A.dens,A.den,Q.val] at hs hf⊢
  obtain⟨k0, -⟩:=hs
  obtain⟨f3,f4,f7, -⟩:=hf
  exact ZLH k0.1 f3 (fun hh=> neT f4 f7 hh.1.2)
 ·simp only[ZC8,ZCu,zy,Fact.ok,A.dens,A.den,Q.val] at hs hf⊢
  obtain⟨k0,k3, -⟩:=hs
  obtain⟨f3,f10,f13, -⟩:=hf
  exact ZLH k0.1 f3 (fun hh=> neT f10 f13 (ZNb (show dn (ρ 3)=_ from hh.2.1)))
 ·simp only[ZC8,ZCu,zy,Fact.ok,A.dens,A.den,Q.val] at hs hf⊢
  obtain⟨k0,k14, -⟩:=hs
  obtain⟨f3,f16,f19, -⟩:=hf
  exact ZLH k0.1 f3 (fun hh=> neT f16 f19 (ZNb (show dn (ρ 14)=_ from hh.2.2.1)))
 ·simp only[ZC8,ZCu,zy,Fact.ok,A.dens,A.den,Q.val] at hs hf⊢
  obtain⟨k0,k15, -⟩:=hs
  obtain⟨f3,f22,f25, -⟩:=hf
  exact ZLH k0.1 f3 (fun hh=> by
 obtain⟨tel,s,hA,hB⟩:=hh.2.2.2.2
 have hC:=hB.2.2.2.2.2
 exact(fun _=> neT f22 f25 (by rw[(ZOI k15.1 hC).2];rfl)) trivial)
 ·simp only[ZC8,ZCu,zy,Fact.ok,A.dens,A.den,Q.val] at hs hf⊢
  obtain⟨k0,k15,k30, -⟩:=hs
  obtain⟨f3,f40,f41,f42, -⟩:=hf
  exact ZLH k0.1 f3 (fun hh=> by
 obtain⟨tel,s,hA,hB⟩:=hh.2.2.2.2
 have hC:=hB.2.2.2.2.2
 exact(fun _=> by
  obtain⟨l,hl⟩:=ZSA k15.1 f40 rfl rfl
  have h2:=(ZOI k15.1 hC).1
  rw[hl,ZMk k30.1] at h2
  exact neT f41 f42 (List.cons.inj h2).1) trivial)
 ·simp only[ZC8,ZCu,zy,Fact.ok,A.dens,A.den,Q.val] at hs hf⊢
  obtain⟨k0,k16, -⟩:=hs
  obtain⟨f3,f43,f46, -⟩:=hf
  exact ZLH k0.1 f3 (fun hh=> neT f43 f46 (ZNb (show dn (ρ 16)=_ from hh.2.2.2.1)))
 ·simp only[ZC8,ZCu,zy,Fact.ok,A.dens,A.den,Q.val] at hs hf⊢
  obtain⟨k0,k38, -⟩:=hs
  obtain⟨f3,f49,f50,f53, -⟩:=hf
  exact ZLH k0.1 f3 (fun hh=> ((fun h=> neT f50 f53 (by rw[(ZMh k38.1 rfl).1 h.1];rfl)):¬ZLZ _ _ _) ((ZMf (ZKP f49)).1 hh.2.2.2.2))
 ·simp only[ZC8,ZCu,zy,Fact.ok,A.dens,A.den,Q.val] at hs hf⊢
  obtain⟨k0,k38,k46, -⟩:=hs
  obtain⟨f3,f49,f66,f67,f70, -⟩:=hf
  exact ZLH k0.1 f3 (fun hh=> ((fun h=> neT f67 f70 (ZKG k46.1 ((ZOy k38.1 f66 rfl rfl k46.1).symm.trans h.2.1))):¬ZLZ _ _ _) ((ZMf (ZKP f49)).1 hh.2.2.2.2))
 ·simp only[ZC8,ZCu,zy,Fact.ok,A.dens,A.den,Q.val] at hs hf⊢
  obtain⟨k0,k38, -⟩:=hs
  obtain⟨f3,f49,f83,f84,f88, -⟩:=hf
  exact ZLH k0.1 f3 (fun hh=> ((fun h=> ZLE f84 f88 (congrArg V.agg ((part k38.1 f83 rfl rfl (N:=1) rfl).symm.trans h.2.2.1))):¬ZLZ _ _ _) ((ZMf (ZKP f49)).1 hh.2.2.2.2))
 ·simp only[ZC8,ZCu,zy,Fact.ok,A.dens,A.den,Q.val] at hs hf⊢
  obtain⟨k0,k38, -⟩:=hs
  obtain⟨f3,f49,f99,f100,f104, -⟩:=hf
  exact ZLH k0.1 f3 (fun hh=> ((fun h=> ZLE f100 f104 (congrArg V.agg ((part k38.1 f99 rfl rfl (N:=2) rfl).symm.trans h.2.2.2.1))):¬ZLZ _ _ _) ((ZMf (ZKP f49)).1 hh.2.2.2.2))
 ·simp only[ZC8,ZCu,zy,Fact.ok,A.dens,A.den,Q.val] at hs hf⊢
  obtain⟨k0,k38,k39, -⟩:=hs
  obtain⟨f3,f49,f105,f108,f109,f112, -⟩:=hf
  exact ZLH k0.1 f3 (fun hh=> ((fun h=> h.2.2.2.2.1.elim (fun h1=> neT f105 f108 (ZKG k39.1 (by have h1:V.intN (dn (ρ 39))=1:=h1;rwa [ZKA k39.1] at h1))) (fun h1=> neT f109 f112 (ZKG k39.1 (by have h1:V.intN (dn (ρ 39))=2:=h1;rwa [ZKA k39.1] at h1)))):¬ZLZ _ _ _) ((ZMf (ZKP f49)).1 hh.2.2.2.2))
 ·simp only[ZC8,ZCu,zy,Fact.ok,A.dens,A.den,Q.val] at hs hf⊢
  obtain⟨k0,k3,k14,k15,k16,k30,k38,k39,k46,k47,k48,k49,k50,k70,k71,k72,k73,k74, -⟩:=hs
  obtain⟨f3,f4,f7,f10,f13,f16,f19,f22,f25,f40,f41,f42,f43,f46,f49,f50,f53,f66,f67,f70,f83,f84,f88,f99,f100,f104,f109,f112,f115,f116, -⟩:=hf
  have B1:(dns (slC (ρ 38))).length=15:=(ZMh k38.1 rfl).2 (ZLm (neF f50 f53))
  have B2:kd (dns (slC (ρ 38)))=2:=by rw[ZOy k38.1 f66 rfl rfl k46.1,neF f67 f70];rfl
  have B3:((dns (slC (ρ 38))).drop 5).take 5=ZGL 0:=(part k38.1 f83 rfl rfl (N:=1) rfl).trans (ZLo (ZLD f84 f88))
  have B4:((dns (slC (ρ 38))).drop 10).take 5=ZGL 1:=(part k38.1 f99 rfl rfl (N:=2) rfl).trans (ZLo (ZLD f100 f104))
  have B5:kd (dns [ρ 39,ρ 40,ρ 41,ρ 42,ρ 43])=1∨kd (dns [ρ 39,ρ 40,ρ 41,ρ 42,ρ 43])=2:=Or.inr (by show V.intN (dn (ρ 39))=2;rw[neF f109 f112];rfl)
  have C1:dn (ρ 15)=.vs (ZOF::dns [ρ 31,ρ 32,ρ 33,ρ 34,ρ 35]) 1 0 .lock:=by
   rw[ZRx k15.1 (ZLm (neF f22 f25)) f40 rfl rfl]
   show V.vs (dn (ρ 30)::dns [ρ 31,ρ 32,ρ 33,ρ 34,ρ 35]) 1 0 .lock=_
   rw[neF f41 f42];rfl
  have R1:dns [ρ 70,ρ 71,ρ 72,ρ 73,ρ 74]=mkT 4 (mkT 4 (mkT 4 eqC (ZGL 1)) (ZGL 0)) (ZGL 0):=ZPM (a:=ZGL 1) (b:=ZGL 0) (c:=ZGL 0) (ZPL (by intro l h;cases h) f115) rfl rfl rfl
  obtain⟨r,e,hr⟩:=ZMX f116
  rw[e]
  refine ZSm k0.1 (Iff.trans ?_ (ZL4 k0.1 f3).symm)
  have hB:=ZRF B1 B2 B3 B4 B5 C1 (hr.trans (Iff.trans (b:=dns [ρ 31,ρ 32,ρ 33,ρ 34,ρ 35]=mkT 6 (dns [ρ 46,ρ 47,ρ 48,ρ 49,ρ 50]) (mkT 6 (ZGL 0) (dns [ρ 70,ρ 71,ρ 72,ρ 73,ρ 74]))) ?_ ?_))
  ·rw[hB]
   refine⟨fun h=> ⟨⟨rfl,neF f4 f7⟩,?_,?_,?_,(ZMf (ZKP f49)).2 h⟩,fun h=> (ZMf (ZKP f49)).1 h.2.2.2.2⟩
   ·show dn (ρ 3)=_
    rw[neF f10 f13];rfl
   ·show dn (ρ 14)=_
    rw[neF f16 f19];rfl
   ·show dn (ρ 16)=_
    rw[neF f43 f46];rfl
  ·show V.agg (dns [ρ 31,ρ 32,ρ 33,ρ 34,ρ 35])=V.agg [V.int .i64 6,V.int .i64 0,V.str ⟨#[]⟩,V.nils,V.vs [dn (V.shut (ρ 46)),dn (V.shut (ρ 47)),dn (V.shut (ρ 48)),dn (V.shut (ρ 49)),dn (V.shut (ρ 50)),V.int .i64 6,V.int .i64 0,V.str ⟨#[]⟩,V.nils,V.vs [V.int .i64 0,V.int .i64 0,V.str ⟨#[]⟩,V.nils,V.nils,dn (V.shut (ρ 70)),dn (V.shut (ρ 71)),dn (V.shut (ρ 72)),dn (V.shut (ρ 73)),dn (V.shut (ρ 74))] 2 0 .lock] 2 0 .lock]↔_
   rw[V.agg.injEq,ZKM k46.1,ZKM k47.1,ZKM k48.1,ZKM k49.1,ZKM k50.1,ZKM k70.1,ZKM k71.1,ZKM k72.1,ZKM k73.1,ZKM k74.1]
   exact Iff.rfl
  ·have hp:(dns (slC (ρ 38))).take 5=dns [ρ 46,ρ 47,ρ 48,ρ 49,ρ 50]:=part k38.1 f66 rfl rfl (N:=0) rfl
   rw[R1,hp]
   exact Iff.rfl
 ·simp only[ZC8,ZCu,zy,Fact.ok,A.dens,A.den,Q.val] at hs hf⊢
  obtain⟨k0,k3,k14,k15,k16,k30,k38,k39,k46,k47,k48,k49,k50,k69,k70,k71,k72,k73, -⟩:=hs
  obtain⟨f3,f4,f7,f10,f13,f16,f19,f22,f25,f40,f41,f42,f43,f46,f49,f50,f53,f66,f67,f70,f83,f84,f88,f99,f100,f104,f105,f108,f111,f112, -⟩:=hf
  have B1:(dns (slC (ρ 38))).length=15:=(ZMh k38.1 rfl).2 (ZLm (neF f50 f53))
  have B2:kd (dns (slC (ρ 38)))=2:=by rw[ZOy k38.1 f66 rfl rfl k46.1,neF f67 f70];rfl
  have B3:((dns (slC (ρ 38))).drop 5).take 5=ZGL 0:=(part k38.1 f83 rfl rfl (N:=1) rfl).trans (ZLo (ZLD f84 f88))
  have B4:((dns (slC (ρ 38))).drop 10).take 5=ZGL 1:=(part k38.1 f99 rfl rfl (N:=2) rfl).trans (ZLo (ZLD f100 f104))
  have B5:kd (dns [ρ 39,ρ 40,ρ 41,ρ 42,ρ 43])=1∨kd (dns [ρ 39,ρ 40,ρ 41,ρ 42,ρ 43])=2:=Or.inl (by show V.intN (dn (ρ 39))=1;rw[neF f105 f108];rfl)
  have C1:dn (ρ 15)=.vs (ZOF::dns [ρ 31,ρ 32,ρ 33,ρ 34,ρ 35]) 1 0 .lock:=by
   rw[ZRx k15.1 (ZLm (neF f22 f25)) f40 rfl rfl]
   show V.vs (dn (ρ 30)::dns [ρ 31,ρ 32,ρ 33,ρ 34,ρ 35]) 1 0 .lock=_
   rw[neF f41 f42];rfl
  have R1:dns [ρ 69,ρ 70,ρ 71,ρ 72,ρ 73]=mkT 4 (mkT 4 (mkT 4 eqC (ZGL 1)) (ZGL 0)) (ZGL 0):=ZPM (a:=ZGL 1) (b:=ZGL 0) (c:=ZGL 0) (ZPL (by intro l h;cases h) f111) rfl rfl rfl
  obtain⟨r,e,hr⟩:=ZMX f112
  rw[e]
  refine ZSm k0.1 (Iff.trans ?_ (ZL4 k0.1 f3).symm)
  have hB:=ZRF B1 B2 B3 B4 B5 C1 (hr.trans (Iff.trans (b:=dns [ρ 31,ρ 32,ρ 33,ρ 34,ρ 35]=mkT 6 (dns [ρ 46,ρ 47,ρ 48,ρ 49,ρ 50]) (mkT 6 (ZGL 0) (dns [ρ 69,ρ 70,ρ 71,ρ 72,ρ 73]))) ?_ ?_))
  ·rw[hB]
   refine⟨fun h=> ⟨⟨rfl,neF f4 f7⟩,?_,?_,?_,(ZMf (ZKP f49)).2 h⟩,fun h=> (ZMf (ZKP f49)).1 h.2.2.2.2⟩
   ·show dn (ρ 3)=_
    rw[neF f10 f13];rfl
   ·show dn (ρ 14)=_
    rw[neF f16 f19];rfl
   ·show dn (ρ 16)=_
    rw[neF f43 f46];rfl
  ·show V.agg (dns [ρ 31,ρ 32,ρ 33,ρ 34,ρ 35])=V.agg [V.int .i64 6,V.int .i64 0,V.str ⟨#[]⟩,V.nils,V.vs [dn (V.shut (ρ 46)),dn (V.shut (ρ 47)),dn (V.shut (ρ 48)),dn (V.shut (ρ 49)),dn (V.shut (ρ 50)),V.int .i64 6,V.int .i64 0,V.str ⟨#[]⟩,V.nils,V.vs [V.int .i64 0,V.int .i64 0,V.str ⟨#[]⟩,V.nils,V.nils,dn (V.shut (ρ 69)),dn (V.shut (ρ 70)),dn (V.shut (ρ 71)),dn (V.shut (ρ 72)),dn (V.shut (ρ 73))] 2 0 .lock] 2 0 .lock]↔_
   rw[V.agg.injEq,ZKM k46.1,ZKM k47.1,ZKM k48.1,ZKM k49.1,ZKM k50.1,ZKM k69.1,ZKM k70.1,ZKM k71.1,ZKM k72.1,ZKM k73.1]
   exact Iff.rfl
  ·have hp:(dns (slC (ρ 38))).take 5=dns [ρ 46,ρ 47,ρ 48,ρ 49,ρ 50]:=part k38.1 f66 rfl rfl (N:=0) rfl
   rw[R1,hp]
   exact Iff.rfl
 ·simp only[ZC8,ZCu,zy,Fact.ok,A.dens,A.den,Q.val] at hs hf⊢
  obtain⟨k0, -⟩:=hs
  obtain⟨f2, -⟩:=hf
  exact ZLH k0.1 f2 (fun hh=> by cases hh.1.1)
def v7:List VC:=[
 ⟨[(0,⟨(.sl 49 false 1048576),true⟩),(6,⟨(.int .i64),true⟩),(11,⟨(.sl 26 false 9223372036854775807),false⟩)],[.pr (fun l=> spP (vns l)) [(.agg [.s 1,.s 2,.s 3,.s 4,.s 5]),(.tup [(.agg [.s 6,.s 7,.s 8,.s 9,.s 10]),.s 11])],.pr (eqQ false) [.s 6,(.k (.int .i64 3)),.s 12],.kb 12 true],fun l=> ZGT (vns l),[.s 0,(.agg [.s 1,.s 2,.s 3,.s 4,.s 5]),(.tup [(.agg [(.k (.int .i64 0)),(.k (.int .i64 0)),(.k (.str ⟨#[]⟩)),.k .nils,.k .nils]),(.agg [(.k (.int .i64 0)),(.k (.int .i64 0)),(.k (.str ⟨#[]⟩)),.k .nils,.k .nils]),(.agg [(.k (.int .i64 0)),(.k (.int .i64 0)),(.k (.str ⟨#[]⟩)),.k .nils,.k .nils]),.k .nils,(.k (.bool false))])]⟩,
 ⟨[(0,⟨(.sl 49 false 1048576),true⟩),(8,⟨(.str 1048576),true⟩),(11,⟨(.sl 26 false 9223372036854775807),false⟩)],[.pr (fun l=> spP (vns l)) [(.agg [.s 1,.s 2,.s 3,.s 4,.s 5]),(.tup [(.agg [.s 6,.s 7,.s 8,.s 9,.s 10]),.s 11])],.pr (eqQ false) [.s 8,(.k (.str ⟨#[69,113]⟩)),.s 13],.kb 13 true],fun l=> ZGT (vns l),[.s 0,(.agg [.s 1,.s 2,.s 3,.s 4,.s 5]),(.tup [(.agg [(.k (.int .i64 0)),(.k (.int .i64 0)),(.k (.str ⟨#[]⟩)),.k .nils,.k .nils]),(.agg [(.k (.int .i64 0)),(.k (.int .i64 0)),(.k (.str ⟨#[]⟩)),.k .nils,.k .nils]),(.agg [(.k (.int .i64 0)),(.k (.int .i64 0)),(.k (.str ⟨#[]⟩)),.k .nils,.k .nils]),.k .nils,(.k (.bool false))])]⟩,
 ⟨[(0,⟨(.sl 49 false 1048576),true⟩),(9,⟨(.sl 53 false 1048576),true⟩),(11,⟨(.sl 26 false 9223372036854775807),false⟩)],[.pr (fun l=> spP (vns l)) [(.agg [.s 1,.s 2,.s 3,.s 4,.s 5]),(.tup [(.agg [.s 6,.s 7,.s 8,.s 9,.s 10]),.s 11])],.pr (eqQ false) [(.len 9),(.k (.int .i64 1)),.s 14],.kb 14 true],fun l=> ZGT (vns l),[.s 0,(.agg [.s 1,.s 2,.s 3,.s 4,.s 5]),(.tup [(.agg [(.k (.int .i64 0)),(.k (.int .i64 0)),(.k (.str ⟨#[]⟩)),.k .nils,.k .nils]),(.agg [(.k (.int .i64 0)),(.k (.int .i64 0)),(.k (.str ⟨#[]⟩)),.k .nils,.k .nils]),(.agg [(.k (.int .i64 0)),(.k (.int .i64 0)),(.k (.str ⟨#[]⟩)),.k .nils,.k .nils]),.k .nils,(.k (.bool false))])]⟩,
 ⟨[(0,⟨(.sl 49 false 1048576),true⟩),(11,⟨(.sl 26 false 9223372036854775807),false⟩)],[.pr (fun l=> spP (vns l)) [(.agg [.s 1,.s 2,.s 3,.s 4,.s 5]),(.tup [(.agg [.s 6,.s 7,.s 8,.s 9,.s 10]),.s 11])],.pr (eqQ false) [(.len 11),(.k (.int .i64 3)),.s 15],.kb 15 true],fun l=> ZGT (vns l),[.s 0,(.agg [.s 1,.s 2,.s 3,.s 4,.s 5]),(.tup [(.agg [(.k (.int .i64 0)),(.k (.int .i64 0)),(.k (.str ⟨#[]⟩)),.k .nils,.k .nils]),(.agg [(.k (.int .i64 0)),(.k (.int .i64 0)),(.k (.str ⟨#[]⟩)),.k .nils,.k .nils]),(.agg [(.k (.int .i64 0)),(.k (.int .i64 0)),(.k (.str ⟨#[]⟩)),.k .nils,.k .nils]),.k .nils,(.k (.bool false))])]⟩,
 ⟨[(0,⟨(.sl 49 false 1048576),true⟩),(11,⟨(.sl 26 false 9223372036854775807),false⟩)],[.pr (fun l=> spP (vns l)) [(.agg [.s 1,.s 2,.s 3,.s 4,.s 5]),(.tup [(.agg [.s 6,.s 7,.s 8,.s 9,.s 10]),.s 11])],.pr (fun l=> ZKQ (vns l)) [.s 0,.s 16],.kb 16 false],fun l=> ZGT (vns l),[.s 0,(.agg [.s 1,.s 2,.s 3,.s 4,.s 5]),(.tup [(.agg [(.k (.int .i64 0)),(.k (.int .i64 0)),(.k (.str ⟨#[]⟩)),.k .nils,.k .nils]),(.agg [(.k (.int .i64 0)),(.k (.int .i64 0)),(.k (.str ⟨#[]⟩)),.k .nils,.k .nils]),(.agg [(.k (.int .i64 0)),(.k (.int .i64 0)),(.k (.str ⟨#[]⟩)),.k .nils,.k .nils]),.k .nils,(.k (.bool false))])]⟩,
 ⟨[(0,⟨(.sl 49 false 1048576),true⟩),(6,⟨(.int .i64),true⟩),(8,⟨(.str 1048576),true⟩),(9,⟨(.sl 53 false 1048576),true⟩),(11,⟨(.sl 26 false 9223372036854775807),false⟩)],[.pr (fun l=> spP (vns l)) [(.agg [.s 1,.s 2,.s 3,.s 4,.s 5]),(.tup [(.agg [.s 6,.s 7,.s 8,.s 9,.s 10]),.s 11])],.pr (eqQ false) [.s 6,(.k (.int .i64 3)),.s 12],.kb 12 false,.pr (eqQ false) [.s 8,(.k (.str ⟨#[69,113]⟩)),.s 13],.kb 13 false,.pr (eqQ false) [(.len 9),(.k (.int .i64 1)),.s 14],.kb 14 false,.pr (eqQ false) [(.len 11),(.k (.int .i64 3)),.s 15],.kb 15 false,.pr (fun l=> ZKQ (vns l)) [.s 0,.s 16],.kb 16 true,.el 11 .z 0 18 5,.el 11 .z 1 24 5,.el 11 .z 2 30 5],fun l=> ZGT (vns l),[.s 0,(.agg [.s 1,.s 2,.s 3,.s 4,.s 5]),(.tup [(.agg [.s 19,.s 20,.s 21,.s 22,.s 23]),(.agg [.s 25,.s 26,.s 27,.s 28,.s 29]),(.agg [.s 31,.s 32,.s 33,.s 34,.s 35]),.s 9,(.k (.bool true))])]⟩]
theorem k7:ZGO Tryz.prog KD hint0 ZUc inl 200 (ZKw s7) s7=some v7:=by kernel_rfl
theorem x7:VCs Tryz.prog KD v7:=by
 refine⟨fun ρ hs hf=> ?_,fun ρ hs hf=> ?_,fun ρ hs hf=> ?_,fun ρ hs hf=> ?_,fun ρ hs hf=> ?_,fun ρ hs hf=> ?_,trivial⟩
 ·simp only[ZC8,ZCu,zy,Fact.ok,A.dens,A.den,Q.val] at hs hf⊢
  obtain⟨k0,k6,k11, -⟩:=hs
  obtain⟨f5,f6,f9, -⟩:=hf
  exact ZLj k0.1 (spE f5) (fun h=> neT f6 f9 (ZKG k6.1 (by have h1:V.intN (dn (ρ 6))=3:=h.2.1;rwa [ZKA k6.1] at h1)))
 ·simp only[ZC8,ZCu,zy,Fact.ok,A.dens,A.den,Q.val] at hs hf⊢
  obtain⟨k0,k8,k11, -⟩:=hs
  obtain⟨f5,f12,f13, -⟩:=hf
  exact ZLj k0.1 (spE f5) (fun h=> neT f12 f13 (by have h1:dn (ρ 8)=eqS:=h.2.2.1;rwa [ZMk k8.1] at h1))
 ·simp only[ZC8,ZCu,zy,Fact.ok,A.dens,A.den,Q.val] at hs hf⊢
  obtain⟨k0,k9,k11, -⟩:=hs
  obtain⟨f5,f14,f17, -⟩:=hf
  exact ZLj k0.1 (spE f5) (fun h=> neT f14 f17 (by have h1:V.lenN (dn (ρ 9))=1:=h.2.2.2.1;rw[ZP0 k9.1] at h1;rw[h1];rfl))
 ·simp only[ZC8,ZCu,zy,Fact.ok,A.dens,A.den,Q.val] at hs hf⊢
  obtain⟨k0,k11, -⟩:=hs
  obtain⟨f5,f20,f23, -⟩:=hf
  exact ZLj k0.1 (spE f5) (fun h=> neT f20 f23 (by rw[(ZMh k11.1 rfl).1 h.2.2.2.2];rfl))
 ·simp only[ZC8,ZCu,zy,Fact.ok,A.dens,A.den,Q.val] at hs hf⊢
  obtain⟨k0,k11, -⟩:=hs
  obtain⟨f5,f26,f30, -⟩:=hf
  exact ZLj k0.1 (spE f5) (fun h=> by
 obtain⟨r,e,hr⟩:=ZVo k0.1 f26
 rw[f30] at e
 cases e
 cases hr.2 h.1)
 ·simp only[ZC8,ZCu,zy,Fact.ok,A.dens,A.den,Q.val] at hs hf⊢
  obtain⟨k0,k6,k8,k9,k11, -⟩:=hs
  obtain⟨f5,f6,f9,f12,f13,f14,f17,f20,f23,f26,f30,f41,f52,f63, -⟩:=hf
  refine ZSu k0.1 (spE f5) (Or.inl ⟨rfl,by
   obtain⟨r,e,hr⟩:=ZVo k0.1 f26
   rw[f30] at e
   cases e
   exact hr.1 rfl,⟨?_,?_,?_,(ZMh k11.1 rfl).2 (ZLm (neF f20 f23))⟩,(part k11.1 f41 rfl rfl (N:=0) rfl).symm,(part k11.1 f52 rfl rfl (N:=1) rfl).symm,(part k11.1 f63 rfl rfl (N:=2) rfl).symm,rfl⟩)
  ·show V.intN (dn (ρ 6))=3
   rw[neF f6 f9];rfl
  ·show dn (ρ 8)=_
   rw[neF f12 f13];rfl
  ·show V.lenN (dn (ρ 9))=1
   rw[ZP0 k9.1]
   exact ZLm (neF f14 f17)
def v8:List VC:=[
 ⟨[(0,⟨(.sl 49 false 1048576),true⟩)],[.pr (fun l=> spP (vns l)) [(.agg [.s 1,.s 2,.s 3,.s 4,.s 5]),(.tup [(.agg [.s 6,.s 7,.s 8,.s 9,.s 10]),.s 11])],.pr (fun l=> ZGQ (vns l)) [.s 0,(.k (.str ⟨#[69,113]⟩)),(.tup [(.agg [.s 12,.s 13,.s 14,.s 15,.s 16,.s 17,.s 18,.s 19,.s 20,.s 21,.s 22,.s 23,.s 24,.s 25,.s 26,.s 27,.s 28,.s 29,.s 30,.s 31,.s 32,.s 33,.s 34]),.s 35,(.k (.bool true))])],.pr (eqQ false) [.s 35,(.k (.int .i64 (-1))),.s 36],.kb 36 true],fun l=> ZGT (vns l),[.s 0,(.agg [.s 1,.s 2,.s 3,.s 4,.s 5]),(.tup [(.agg [(.k (.int .i64 0)),(.k (.int .i64 0)),(.k (.str ⟨#[]⟩)),.k .nils,.k .nils]),(.agg [(.k (.int .i64 0)),(.k (.int .i64 0)),(.k (.str ⟨#[]⟩)),.k .nils,.k .nils]),(.agg [(.k (.int .i64 0)),(.k (.int .i64 0)),(.k (.str ⟨#[]⟩)),.k .nils,.k .nils]),.k .nils,(.k (.bool false))])]⟩,
 ⟨[(0,⟨(.sl 49 false 1048576),true⟩),(14,⟨(.int .i64),true⟩)],[.pr (fun l=> spP (vns l)) [(.agg [.s 1,.s 2,.s 3,.s 4,.s 5]),(.tup [(.agg [.s 6,.s 7,.s 8,.s 9,.s 10]),.s 11])],.pr (fun l=> ZGQ (vns l)) [.s 0,(.k (.str ⟨#[69,113]⟩)),(.tup [(.agg [.s 12,.s 13,.s 14,.s 15,.s 16,.s 17,.s 18,.s 19,.s 20,.s 21,.s 22,.s 23,.s 24,.s 25,.s 26,.s 27,.s 28,.s 29,.s 30,.s 31,.s 32,.s 33,.s 34]),.s 35,(.k (.bool true))])],.pr (eqQ false) [.s 14,(.k (.int .i64 1)),.s 37],.kb 37 true],fun l=> ZGT (vns l),[.s 0,(.agg [.s 1,.s 2,.s 3,.s 4,.s 5]),(.tup [(.agg [(.k (.int .i64 0)),(.k (.int .i64 0)),(.k (.str ⟨#[]⟩)),.k .nils,.k .nils]),(.agg [(.k (.int .i64 0)),(.k (.int .i64 0)),(.k (.str ⟨#[]⟩)),.k .nils,.k .nils]),(.agg [(.k (.int .i64 0)),(.k (.int .i64 0)),(.k (.str ⟨#[]⟩)),.k .nils,.k .nils]),.k .nils,(.k (.bool false))])]⟩,
 ⟨[(0,⟨(.sl 49 false 1048576),true⟩),(25,⟨(.int .i64),true⟩)],[.pr (fun l=> spP (vns l)) [(.agg [.s 1,.s 2,.s 3,.s 4,.s 5]),(.tup [(.agg [.s 6,.s 7,.s 8,.s 9,.s 10]),.s 11])],.pr (fun l=> ZGQ (vns l)) [.s 0,(.k (.str ⟨#[69,113]⟩)),(.tup [(.agg [.s 12,.s 13,.s 14,.s 15,.s 16,.s 17,.s 18,.s 19,.s 20,.s 21,.s 22,.s 23,.s 24,.s 25,.s 26,.s 27,.s 28,.s 29,.s 30,.s 31,.s 32,.s 33,.s 34]),.s 35,(.k (.bool true))])],.pr (eqQ false) [.s 25,(.k (.int .i64 2)),.s 38],.kb 38 true],fun l=> ZGT (vns l),[.s 0,(.agg [.s 1,.s 2,.s 3,.s 4,.s 5]),(.tup [(.agg [(.k (.int .i64 0)),(.k (.int .i64 0)),(.k (.str ⟨#[]⟩)),.k .nils,.k .nils]),(.agg [(.k (.int .i64 0)),(.k (.int .i64 0)),(.k (.str ⟨#[]⟩)),.k .nils,.k .nils]),(.agg [(.k (.int .i64 0)),(.k (.int .i64 0)),(.k (.str ⟨#[]⟩)),.k .nils,.k .nils]),.k .nils,(.k (.bool false))])]⟩,
 ⟨[(0,⟨(.sl 49 false 1048576),true⟩),(27,⟨(.int .i64),true⟩)],[.pr (fun l=> spP (vns l)) [(.agg [.s 1,.s 2,.s 3,.s 4,.s 5]),(.tup [(.agg [.s 6,.s 7,.s 8,.s 9,.s 10]),.s 11])],.pr (fun l=> ZGQ (vns l)) [.s 0,(.k (.str ⟨#[69,113]⟩)),(.tup [(.agg [.s 12,.s 13,.s 14,.s 15,.s 16,.s 17,.s 18,.s 19,.s 20,.s 21,.s 22,.s 23,.s 24,.s 25,.s 26,.s 27,.s 28,.s 29,.s 30,.s 31,.s 32,.s 33,.s 34]),.s 35,(.k (.bool true))])],.pr (eqQ false) [.s 27,(.k (.int .i64 2)),.s 39],.kb 39 true],fun l=> ZGT (vns l),[.s 0,(.agg [.s 1,.s 2,.s 3,.s 4,.s 5]),(.tup [(.agg [(.k (.int .i64 0)),(.k (.int .i64 0)),(.k (.str ⟨#[]⟩)),.k .nils,.k .nils]),(.agg [(.k (.int .i64 0)),(.k (.int .i64 0)),(.k (.str ⟨#[]⟩)),.k .nils,.k .nils]),(.agg [(.k (.int .i64 0)),(.k (.int .i64 0)),(.k (.str ⟨#[]⟩)),.k .nils,.k .nils]),.k .nils,(.k (.bool false))])]⟩,
 ⟨[(0,⟨(.sl 49 false 1048576),true⟩)],[.pr (fun l=> spP (vns l)) [(.agg [.s 1,.s 2,.s 3,.s 4,.s 5]),(.tup [(.agg [.s 6,.s 7,.s 8,.s 9,.s 10]),.s 11])],.pr (fun l=> ZGQ (vns l)) [.s 0,(.k (.str ⟨#[69,113]⟩)),(.tup [(.agg [.s 12,.s 13,.s 14,.s 15,.s 16,.s 17,.s 18,.s 19,.s 20,.s 21,.s 22,.s 23,.s 24,.s 25,.s 26,.s 27,.s 28,.s 29,.s 30,.s 31,.s 32,.s 33,.s 34]),.s 35,(.k (.bool true))])],.pr (fun l=> ZK4 (vns l)) [(.agg [.s 12,.s 13,.s 14,.s 15,.s 16,.s 17,.s 18,.s 19,.s 20,.s 21,.s 22,.s 23,.s 24,.s 25,.s 26,.s 27,.s 28,.s 29,.s 30,.s 31,.s 32,.s 33,.s 34]),.s 40],.kb 40 false],fun l=> ZGT (vns l),[.s 0,(.agg [.s 1,.s 2,.s 3,.s 4,.s 5]),(.tup [(.agg [(.k (.int .i64 0)),(.k (.int .i64 0)),(.k (.str ⟨#[]⟩)),.k .nils,.k .nils]),(.agg [(.k (.int .i64 0)),(.k (.int .i64 0)),(.k (.str ⟨#[]⟩)),.k .nils,.k .nils]),(.agg [(.k (.int .i64 0)),(.k (.int .i64 0)),(.k (.str ⟨#[]⟩)),.k .nils,.k .nils]),.k .nils,(.k (.bool false))])]⟩,
 ⟨[(0,⟨(.sl 49 false 1048576),true⟩),(6,⟨(.int .i64),true⟩),(11,⟨(.sl 26 false 9223372036854775807),false⟩)],[.pr (fun l=> spP (vns l)) [(.agg [.s 1,.s 2,.s 3,.s 4,.s 5]),(.tup [(.agg [.s 6,.s 7,.s 8,.s 9,.s 10]),.s 11])],.pr (eqQ false) [.s 6,(.k (.int .i64 3)),.s 42],.kb 42 true],fun l=> ZGT (vns l),[.s 0,(.agg [.s 1,.s 2,.s 3,.s 4,.s 5]),(.tup [(.agg [(.k (.int .i64 0)),(.k (.int .i64 0)),(.k (.str ⟨#[]⟩)),.k .nils,.k .nils]),(.agg [(.k (.int .i64 0)),(.k (.int .i64 0)),(.k (.str ⟨#[]⟩)),.k .nils,.k .nils]),(.agg [(.k (.int .i64 0)),(.k (.int .i64 0)),(.k (.str ⟨#[]⟩)),.k .nils,.k .nils]),.k .nils,(.k (.bool false))])]⟩,
 ⟨[(0,⟨(.sl 49 false 1048576),true⟩),(8,⟨(.str 1048576),true⟩),(11,⟨(.sl 26 false 9223372036854775807),false⟩)],[.pr (fun l=> spP (vns l)) [(.agg [.s 1,.s 2,.s 3,.s 4,.s 5]),(.tup [(.agg [.s 6,.s 7,.s 8,.s 9,.s 10]),.s 11])],.pr (eqQ false) [.s 8,(.k (.str ⟨#[69,113]⟩)),.s 43],.kb 43 true],fun l=> ZGT (vns l),[.s 0,(.agg [.s 1,.s 2,.s 3,.s 4,.s 5]),(.tup [(.agg [(.k (.int .i64 0)),(.k (.int .i64 0)),(.k (.str ⟨#[]⟩)),.k .nils,.k .nils]),(.agg [(.k (.int .i64 0)),(.k (.int .i64 0)),(.k (.str ⟨#[]⟩)),.k .nils,.k .nils]),(.agg [(.k (.int .i64 0)),(.k (.int .i64 0)),(.k (.str ⟨#[]⟩)),.k .nils,.k .nils]),.k .nils,(.k (.bool false))])]⟩,
 ⟨[(0,⟨(.sl 49 false 1048576),true⟩),(9,⟨(.sl 53 false 1048576),true⟩),(11,⟨(.sl 26 false 9223372036854775807),false⟩)],[.pr (fun l=> spP (vns l)) [(.agg [.s 1,.s 2,.s 3,.s 4,.s 5]),(.tup [(.agg [.s 6,.s 7,.s 8,.s 9,.s 10]),.s 11])],.pr (eqQ false) [(.len 9),(.k (.int .i64 1)),.s 44],.kb 44 true],fun l=> ZGT (vns l),[.s 0,(.agg [.s 1,.s 2,.s 3,.s 4,.s 5]),(.tup [(.agg [(.k (.int .i64 0)),(.k (.int .i64 0)),(.k (.str ⟨#[]⟩)),.k .nils,.k .nils]),(.agg [(.k (.int .i64 0)),(.k (.int .i64 0)),(.k (.str ⟨#[]⟩)),.k .nils,.k .nils]),(.agg [(.k (.int .i64 0)),(.k (.int .i64 0)),(.k (.str ⟨#[]⟩)),.k .nils,.k .nils]),.k .nils,(.k (.bool false))])]⟩,
 ⟨[(0,⟨(.sl 49 false 1048576),true⟩),(11,⟨(.sl 26 false 9223372036854775807),false⟩)],[.pr (fun l=> spP (vns l)) [(.agg [.s 1,.s 2,.s 3,.s 4,.s 5]),(.tup [(.agg [.s 6,.s 7,.s 8,.s 9,.s 10]),.s 11])],.pr (eqQ false) [(.len 11),(.k (.int .i64 3)),.s 45],.kb 45 true],fun l=> ZGT (vns l),[.s 0,(.agg [.s 1,.s 2,.s 3,.s 4,.s 5]),(.tup [(.agg [(.k (.int .i64 0)),(.k (.int .i64 0)),(.k (.str ⟨#[]⟩)),.k .nils,.k .nils]),(.agg [(.k (.int .i64 0)),(.k (.int .i64 0)),(.k (.str ⟨#[]⟩)),.k .nils,.k .nils]),(.agg [(.k (.int .i64 0)),(.k (.int .i64 0)),(.k (.str ⟨#[]⟩)),.k .nils,.k .nils]),.k .nils,(.k (.bool false))])]⟩,
 ⟨[(0,⟨(.sl 49 false 1048576),true⟩),(6,⟨(.int .i64),true⟩),(8,⟨(.str 1048576),true⟩),(9,⟨(.sl 53 false 1048576),true⟩),(11,⟨(.sl 26 false 9223372036854775807),false⟩),(14,⟨(.int .i64),true⟩),(25,⟨(.int .i64),true⟩),(27,⟨(.int .i64),true⟩),(35,⟨(.int .i64),true⟩)],[.pr (fun l=> spP (vns l)) [(.agg [.s 1,.s 2,.s 3,.s 4,.s 5]),(.tup [(.agg [.s 6,.s 7,.s 8,.s 9,.s 10]),.s 11])],.pr (fun l=> ZGQ (vns l)) [.s 0,(.k (.str ⟨#[69,113]⟩)),(.tup [(.agg [.s 12,.s 13,.s 14,.s 15,.s 16,.s 17,.s 18,.s 19,.s 20,.s 21,.s 22,.s 23,.s 24,.s 25,.s 26,.s 27,.s 28,.s 29,.s 30,.s 31,.s 32,.s 33,.s 34]),.s 35,(.k (.bool true))])],.pr (eqQ false) [.s 35,(.k (.int .i64 (-1))),.s 36],.kb 36 false,.pr (eqQ false) [.s 14,(.k (.int .i64 1)),.s 37],.kb 37 false,.pr (eqQ false) [.s 25,(.k (.int .i64 2)),.s 38],.kb 38 false,.pr (eqQ false) [.s 27,(.k (.int .i64 2)),.s 39],.kb 39 false,.pr (fun l=> ZK4 (vns l)) [(.agg [.s 12,.s 13,.s 14,.s 15,.s 16,.s 17,.s 18,.s 19,.s 20,.s 21,.s 22,.s 23,.s 24,.s 25,.s 26,.s 27,.s 28,.s 29,.s 30,.s 31,.s 32,.s 33,.s 34]),.s 40],.kb 40 true,.pr (eqQ false) [.s 6,(.k (.int .i64 3)),.s 42],.kb 42 false,.pr (eqQ false) [.s 8,(.k (.str ⟨#[69,113]⟩)),.s 43],.kb 43 false,.pr (eqQ false) [(.len 9),(.k (.int .i64 1)),.s 44],.kb 44 false,.pr (eqQ false) [(.len 11),(.k (.int .i64 3)),.s 45],.kb 45 false,.el 11 .z 0 46 5,.el 11 .z 1 52 5,.el 11 .z 2 58 5],fun l=> ZGT (vns l),[.s 0,(.agg [.s 1,.s 2,.s 3,.s 4,.s 5]),(.tup [(.agg [.s 47,.s 48,.s 49,.s 50,.s 51]),(.agg [.s 53,.s 54,.s 55,.s 56,.s 57]),(.agg [.s 59,.s 60,.s 61,.s 62,.s 63]),.s 9,(.k (.bool true))])]⟩,
 ⟨[(0,⟨(.sl 49 false 1048576),true⟩)],[.pr (fun l=> spP (vns l)) [(.agg [.s 1,.s 2,.s 3,.s 4,.s 5]),(.tup [(.agg [.s 6,.s 7,.s 8,.s 9,.s 10]),.s 11])],.pr (fun l=> ZGQ (vns l)) [.s 0,(.k (.str ⟨#[69,113]⟩)),(.tup [(.agg [.s 12,.s 13,.s 14,.s 15,.s 16,.s 17,.s 18,.s 19,.s 20,.s 21,.s 22,.s 23,.s 24,.s 25,.s 26,.s 27,.s 28,.s 29,.s 30,.s 31,.s 32,.s 33,.s 34]),.s 35,(.k (.bool false))])]],fun l=> ZGT (vns l),[.s 0,(.agg [.s 1,.s 2,.s 3,.s 4,.s 5]),(.tup [(.agg [(.k (.int .i64 0)),(.k (.int .i64 0)),(.k (.str ⟨#[]⟩)),.k .nils,.k .nils]),(.agg [(.k (.int .i64 0)),(.k (.int .i64 0)),(.k (.str ⟨#[]⟩)),.k .nils,.k .nils]),(.agg [(.k (.int .i64 0)),(.k (.int .i64 0)),(.k (.str ⟨#[]⟩)),.k .nils,.k .nils]),.k .nils,(.k (.bool false))])]⟩]
theorem k8:ZGO Tryz.prog KD hint0 ZUd inl 200 (ZKw s8) s8=some v8:=by kernel_rfl
theorem x8:VCs Tryz.prog KD v8:=by
 refine⟨fun ρ hs hf=> ?_,fun ρ hs hf=> ?_,fun ρ hs hf=> ?_,fun ρ hs hf=> ?_,fun ρ hs hf=> ?_,fun ρ hs hf=> ?_,fun ρ hs hf=> ?_,fun ρ hs hf=> ?_,fun ρ hs hf=> ?_,fun ρ hs hf=> ?_,fun ρ hs hf=> ?_,trivial⟩
 ·simp only[ZC8,ZCu,zy,Fact.ok,A.dens,A.den,Q.val] at hs hf⊢
  obtain⟨k0, -⟩:=hs
  obtain⟨f5,f7,f8,f11, -⟩:=hf
  exact ZLj k0.1 (spE f5) (fun h=> by
 have hh:=(ZL4 k0.1 f7).1 h.1
 exact neT f8 f11 hh.1.2)
 ·simp only[ZC8,ZCu,zy,Fact.ok,A.dens,A.den,Q.val] at hs hf⊢
  obtain⟨k0,k14, -⟩:=hs
  obtain⟨f5,f7,f14,f17, -⟩:=hf
  exact ZLj k0.1 (spE f5) (fun h=> by
 have hh:=(ZL4 k0.1 f7).1 h.1
 exact neT f14 f17 (ZNb (show dn (ρ 14)=_ from hh.2.1)))
 ·simp only[ZC8,ZCu,zy,Fact.ok,A.dens,A.den,Q.val] at hs hf⊢
  obtain⟨k0,k25, -⟩:=hs
  obtain⟨f5,f7,f20,f23, -⟩:=hf
  exact ZLj k0.1 (spE f5) (fun h=> by
 have hh:=(ZL4 k0.1 f7).1 h.1
 exact neT f20 f23 (ZNb (show dn (ρ 25)=_ from hh.2.2.1)))
 ·simp only[ZC8,ZCu,zy,Fact.ok,A.dens,A.den,Q.val] at hs hf⊢
  obtain⟨k0,k27, -⟩:=hs
  obtain⟨f5,f7,f26,f29, -⟩:=hf
  exact ZLj k0.1 (spE f5) (fun h=> by
 have hh:=(ZL4 k0.1 f7).1 h.1
 exact neT f26 f29 (ZNb (show dn (ρ 27)=_ from hh.2.2.2.1)))
 ·simp only[ZC8,ZCu,zy,Fact.ok,A.dens,A.den,Q.val] at hs hf⊢
  obtain⟨k0, -⟩:=hs
  obtain⟨f5,f7,f32,f36, -⟩:=hf
  exact ZLj k0.1 (spE f5) (fun h=> by
 have hh:=(ZL4 k0.1 f7).1 h.1
 obtain⟨r,e,hr⟩:=ZX7 f32
 rw[f36] at e
 cases e
 cases hr.2 hh.2.2.2.2)
 ·simp only[ZC8,ZCu,zy,Fact.ok,A.dens,A.den,Q.val] at hs hf⊢
  obtain⟨k0,k6,k11, -⟩:=hs
  obtain⟨f5,f37,f40, -⟩:=hf
  exact ZLj k0.1 (spE f5) (fun h=> neT f37 f40 (ZKG k6.1 (by have h1:V.intN (dn (ρ 6))=3:=h.2.1;rwa [ZKA k6.1] at h1)))
 ·simp only[ZC8,ZCu,zy,Fact.ok,A.dens,A.den,Q.val] at hs hf⊢
  obtain⟨k0,k8,k11, -⟩:=hs
  obtain⟨f5,f43,f44, -⟩:=hf
  exact ZLj k0.1 (spE f5) (fun h=> neT f43 f44 (by have h1:dn (ρ 8)=eqS:=h.2.2.1;rwa [ZMk k8.1] at h1))
 ·simp only[ZC8,ZCu,zy,Fact.ok,A.dens,A.den,Q.val] at hs hf⊢
  obtain⟨k0,k9,k11, -⟩:=hs
  obtain⟨f5,f45,f48, -⟩:=hf
  exact ZLj k0.1 (spE f5) (fun h=> neT f45 f48 (by have h1:V.lenN (dn (ρ 9))=1:=h.2.2.2.1;rw[ZP0 k9.1] at h1;rw[h1];rfl))
 ·simp only[ZC8,ZCu,zy,Fact.ok,A.dens,A.den,Q.val] at hs hf⊢
  obtain⟨k0,k11, -⟩:=hs
  obtain⟨f5,f51,f54, -⟩:=hf
  exact ZLj k0.1 (spE f5) (fun h=> neT f51 f54 (by rw[(ZMh k11.1 rfl).1 h.2.2.2.2];rfl))
 ·simp only[ZC8,ZCu,zy,Fact.ok,A.dens,A.den,Q.val] at hs hf⊢
  obtain⟨k0,k6,k8,k9,k11,k14,k25,k27,k35, -⟩:=hs
  obtain⟨f5,f7,f8,f11,f14,f17,f20,f23,f26,f29,f32,f36,f37,f40,f43,f44,f45,f48,f51,f54,f67,f78,f89, -⟩:=hf
  refine ZSu k0.1 (spE f5) (Or.inl ⟨rfl,(ZL4 k0.1 f7).2 ⟨⟨rfl,neF f8 f11⟩,by show dn (ρ 14)=_;rw[neF f14 f17];rfl,by show dn (ρ 25)=_;rw[neF f20 f23];rfl,by show dn (ρ 27)=_;rw[neF f26 f29];rfl,by
   obtain⟨r,e,hr⟩:=ZX7 f32
   rw[f36] at e
   cases e
   exact hr.1 rfl⟩,⟨?_,?_,?_,(ZMh k11.1 rfl).2 (ZLm (neF f51 f54))⟩,(part k11.1 f67 rfl rfl (N:=0) rfl).symm,(part k11.1 f78 rfl rfl (N:=1) rfl).symm,(part k11.1 f89 rfl rfl (N:=2) rfl).symm,rfl⟩)
  ·show V.intN (dn (ρ 6))=3
   rw[neF f37 f40];rfl
  ·show dn (ρ 8)=_
   rw[neF f43 f44];rfl
  ·show V.lenN (dn (ρ 9))=1
   rw[ZP0 k9.1]
   exact ZLm (neF f45 f48)
 ·simp only[ZC8,ZCu,zy,Fact.ok,A.dens,A.den,Q.val] at hs hf⊢
  obtain⟨k0, -⟩:=hs
  obtain⟨f5,f6, -⟩:=hf
  exact ZLj k0.1 (spE f5) (fun h=> by
 have hh:=(ZL4 k0.1 f6).1 h.1
 exact(by cases hh.1.1))
end
section
def v127:List VC:=[
 ⟨[],[],ZKq,[.s 0,.s 1,(.k (.int .i64 0))]⟩,
 ⟨[(0,⟨(.sl 49 false 1048576),true⟩),(6,⟨(.str 1048576),true⟩),(32,⟨.idx,true⟩)],[.pr ZKq [.s 0,.s 1,.s 2],.el 0 (.v 2) 0 4 23,.c .z (.v 5) 0,.c (.v 5) .z 0,.pr (eqQ true) [.s 6,.s 1,.s 31],.kb 31 false,.c (.v 32) (.v 2) 1,.c (.v 2) (.v 32) (-1)],ZKq,[.s 0,.s 1,.s 32]⟩,
 ⟨[(0,⟨(.sl 49 false 1048576),true⟩),(6,⟨(.str 1048576),true⟩),(33,⟨.idx,true⟩)],[.pr ZKq [.s 0,.s 1,.s 2],.el 0 (.v 2) 0 4 23,.c .z (.v 5) (-1),.c (.v 5) .z 1,.pr (eqQ true) [.s 6,.s 1,.s 32],.kb 32 false,.c (.v 33) (.v 2) 1,.c (.v 2) (.v 33) (-1)],ZKq,[.s 0,.s 1,.s 33]⟩,
 ⟨[(0,⟨(.sl 49 false 1048576),true⟩),(6,⟨(.str 1048576),true⟩),(34,⟨.idx,true⟩)],[.pr ZKq [.s 0,.s 1,.s 2],.el 0 (.v 2) 0 4 23,.c .z (.v 5) (-2),.c (.v 5) .z 2,.pr (eqQ true) [.s 6,.s 1,.s 33],.kb 33 false,.c (.v 34) (.v 2) 1,.c (.v 2) (.v 34) (-1)],ZKq,[.s 0,.s 1,.s 34]⟩,
 ⟨[(0,⟨(.sl 49 false 1048576),true⟩),(6,⟨(.str 1048576),true⟩),(19,⟨(.sl 91 false 1048576),true⟩),(38,⟨.idx,true⟩)],[.pr ZKq [.s 0,.s 1,.s 2],.el 0 (.v 2) 0 4 23,.c .z (.v 5) (-3),.c (.v 5) .z 3,.pr (eqQ true) [.s 6,.s 1,.s 33],.kb 33 false,.pr (ZLr 6) [.s 19,(.agg [.s 1]),.s 34],.c (.v 34) (.l 19) 0,.c (.l 19) (.v 34) 0,.pr ZOR [.s 6,(.k (.str ⟨#[46,114,101,99]⟩)),.s 36],.pr (eqQ true) [.s 36,.s 1,.s 37],.kb 37 false,.c (.v 38) (.v 2) 1,.c (.v 2) (.v 38) (-1)],ZKq,[.s 0,.s 1,.s 38]⟩,
 ⟨[(0,⟨(.sl 49 false 1048576),true⟩),(27,⟨(.sl 205 false 1048576),true⟩),(36,⟨.idx,true⟩)],[.pr ZKq [.s 0,.s 1,.s 2],.el 0 (.v 2) 0 4 23,.c .z (.v 5) (-4),.c (.v 5) .z 4,.pr (ZLr 15) [.s 27,(.agg [.s 1]),.s 34],.c (.v 34) (.l 27) 0,.c (.l 27) (.v 34) 0,.c (.v 36) (.v 2) 1,.c (.v 2) (.v 36) (-1)],ZKq,[.s 0,.s 1,.s 36]⟩,
 ⟨[(0,⟨(.sl 49 false 1048576),true⟩),(5,⟨(.int .i64),true⟩),(34,⟨.idx,true⟩)],[.pr ZKq [.s 0,.s 1,.s 2],.el 0 (.v 2) 0 4 23,.pr (eqQ true) [.s 5,(.k (.int .i64 0)),.s 29],.kb 29 false,.pr (eqQ true) [.s 5,(.k (.int .i64 1)),.s 30],.kb 30 false,.pr (eqQ true) [.s 5,(.k (.int .i64 2)),.s 31],.kb 31 false,.pr (eqQ true) [.s 5,(.k (.int .i64 3)),.s 32],.kb 32 false,.pr (eqQ true) [.s 5,(.k (.int .i64 4)),.s 33],.kb 33 false,.c (.v 34) (.v 2) 1,.c (.v 2) (.v 34) (-1)],ZKq,[.s 0,.s 1,.s 34]⟩,
 ⟨[(0,⟨(.sl 49 false 1048576),true⟩),(1,⟨(.str 1073741824),true⟩),(6,⟨(.str 1048576),true⟩)],[.pr ZKq [.s 0,.s 1,.s 2],.el 0 (.v 2) 0 4 23,.c .z (.v 5) 0,.c (.v 5) .z 0,.pr (eqQ true) [.s 6,.s 1,.s 31],.kb 31 true],fun l=> ZKR (vns l),[.s 0,.s 1,(.tup [(.agg [(.k (.int .i64 0)),.s 2,(.k (.int .i64 0)),.s 7,.s 8,.s 9,.s 10,.s 11,.s 12]),(.k (.int .i64 0))])]⟩,
 ⟨[(0,⟨(.sl 49 false 1048576),true⟩),(1,⟨(.str 1073741824),true⟩),(6,⟨(.str 1048576),true⟩)],[.pr ZKq [.s 0,.s 1,.s 2],.el 0 (.v 2) 0 4 23,.c .z (.v 5) (-1),.c (.v 5) .z 1,.pr (eqQ true) [.s 6,.s 1,.s 32],.kb 32 true],fun l=> ZKR (vns l),[.s 0,.s 1,(.tup [(.agg [(.k (.int .i64 1)),.s 2,(.k (.int .i64 0)),.s 7,.s 8,.s 9,.s 10,.s 11,.s 12]),(.k (.int .i64 0))])]⟩,
 ⟨[(0,⟨(.sl 49 false 1048576),true⟩),(1,⟨(.str 1073741824),true⟩),(6,⟨(.str 1048576),true⟩)],[.pr ZKq [.s 0,.s 1,.s 2],.el 0 (.v 2) 0 4 23,.c .z (.v 5) (-2),.c (.v 5) .z 2,.pr (eqQ true) [.s 6,.s 1,.s 33],.kb 33 true],fun l=> ZKR (vns l),[.s 0,.s 1,(.tup [(.agg [(.k (.int .i64 2)),.s 2,(.k (.int .i64 0)),.s 7,.s 8,.s 9,.s 10,.s 11,.s 12]),(.k (.int .i64 0))])]⟩,
 ⟨[(0,⟨(.sl 49 false 1048576),true⟩),(1,⟨(.str 1073741824),true⟩),(6,⟨(.str 1048576),true⟩)],[.pr ZKq [.s 0,.s 1,.s 2],.el 0 (.v 2) 0 4 23,.c .z (.v 5) (-3),.c (.v 5) .z 3,.pr (eqQ true) [.s 6,.s 1,.s 33],.kb 33 true],fun l=> ZKR (vns l),[.s 0,.s 1,(.tup [(.agg [(.k (.int .i64 3)),.s 2,(.k (.int .i64 0)),.s 7,.s 8,.s 9,.s 10,.s 11,.s 12]),(.k (.int .i64 0))])]⟩,
 ⟨[],[],(ZLr 6),[.s 19,(.agg [.s 1]),(.k (.int .i64 0))]⟩,
 ⟨[(19,⟨(.sl 91 false 1048576),true⟩),(44,⟨.idx,true⟩)],[.pr (ZLr 6) [.s 19,(.agg [.s 1]),.s 34],.el 19 (.v 34) 0 36 6,.pr (eqQ true) [.s 37,.s 1,.s 43],.kb 43 false,.c (.v 44) (.v 34) 1,.c (.v 34) (.v 44) (-1)],(ZLr 6),[.s 19,(.agg [.s 1]),.s 44]⟩,
 ⟨[(0,⟨(.sl 49 false 1048576),true⟩),(1,⟨(.str 1073741824),true⟩),(6,⟨(.str 1048576),true⟩),(19,⟨(.sl 91 false 1048576),true⟩),(34,⟨.idx,true⟩)],[.pr ZKq [.s 0,.s 1,.s 2],.el 0 (.v 2) 0 4 23,.c .z (.v 5) (-3),.c (.v 5) .z 3,.pr (eqQ true) [.s 6,.s 1,.s 33],.kb 33 false,.el 19 (.v 34) 0 36 6,.pr (eqQ true) [.s 37,.s 1,.s 43],.kb 43 true],fun l=> ZKR (vns l),[.s 0,.s 1,(.tup [(.agg [(.k (.int .i64 4)),.s 2,.s 34,.s 7,.s 38,.s 39,.s 40,.s 41,.s 42]),(.k (.int .i64 0))])]⟩,
 ⟨[(0,⟨(.sl 49 false 1048576),true⟩),(1,⟨(.str 1073741824),true⟩),(6,⟨(.str 1048576),true⟩)],[.pr ZKq [.s 0,.s 1,.s 2],.el 0 (.v 2) 0 4 23,.c .z (.v 5) (-3),.c (.v 5) .z 3,.pr (eqQ true) [.s 6,.s 1,.s 33],.kb 33 false,.pr ZOR [.s 6,(.k (.str ⟨#[46,114,101,99]⟩)),.s 36],.pr (eqQ true) [.s 36,.s 1,.s 37],.kb 37 true],fun l=> ZKR (vns l),[.s 0,.s 1,(.tup [(.agg [(.k (.int .i64 5)),.s 2,(.k (.int .i64 0)),.s 20,.s 21,.s 22,.s 23,.s 24,.s 25]),(.k (.int .i64 0))])]⟩,
 ⟨[],[],(ZLr 15),[.s 27,(.agg [.s 1]),(.k (.int .i64 0))]⟩,
 ⟨[(27,⟨(.sl 205 false 1048576),true⟩),(53,⟨.idx,true⟩)],[.pr (ZLr 15) [.s 27,(.agg [.s 1]),.s 34],.el 27 (.v 34) 0 36 15,.pr (eqQ true) [.s 37,.s 1,.s 52],.kb 52 false,.c (.v 53) (.v 34) 1,.c (.v 34) (.v 53) (-1)],(ZLr 15),[.s 27,(.agg [.s 1]),.s 53]⟩,
 ⟨[(0,⟨(.sl 49 false 1048576),true⟩),(1,⟨(.str 1073741824),true⟩),(6,⟨(.str 1048576),true⟩),(27,⟨(.sl 205 false 1048576),true⟩),(34,⟨.idx,true⟩)],[.pr ZKq [.s 0,.s 1,.s 2],.el 0 (.v 2) 0 4 23,.c .z (.v 5) (-4),.c (.v 5) .z 4,.el 27 (.v 34) 0 36 15,.pr (eqQ true) [.s 37,.s 1,.s 52],.kb 52 true],fun l=> ZKR (vns l),[.s 0,.s 1,(.tup [(.agg [(.k (.int .i64 6)),.s 2,.s 34,.s 7,.s 38,.s 39,.s 40,.s 41,.s 42]),(.k (.int .i64 0))])]⟩,
 ⟨[(0,⟨(.sl 49 false 1048576),true⟩),(1,⟨(.str 1073741824),true⟩)],[.pr ZKq [.s 0,.s 1,.s 2],.c (.l 0) (.v 2) 0],fun l=> ZNg (vns l),[.s 0,.s 1,(.tup [(.agg [(.k (.int .i64 0)),(.k (.int .i64 0)),(.k (.int .i64 0)),(.k (.int .i64 0)),(.k (.int .i64 0)),(.k (.int .i64 0)),(.k (.str ⟨#[]⟩)),.k .nils,.k .nils]),(.k (.int .i64 9))])]⟩]
theorem Z0w:ZGO Tryz.prog KD hint0 ZT7 inl 200 (ZKw ZTH) ZTH=some v127:=by kernel_rfl
theorem Z29:VCs Tryz.prog KD v127:=by
 refine⟨fun ρ hs hf=> ?_,fun ρ hs hf=> ?_,fun ρ hs hf=> ?_,fun ρ hs hf=> ?_,fun ρ hs hf=> ?_,fun ρ hs hf=> ?_,fun ρ hs hf=> ?_,fun ρ hs hf=> ?_,fun ρ hs hf=> ?_,fun ρ hs hf=> ?_,fun ρ hs hf=> ?_,fun ρ hs hf=> ?_,fun ρ hs hf=> ?_,fun ρ hs hf=> ?_,fun ρ hs hf=> ?_,fun ρ hs hf=> ?_,fun ρ hs hf=> ?_,fun ρ hs hf=> ?_,fun ρ hs hf=> ?_,trivial⟩
 ·simp only[A.dens,A.den]
  exact⟨_,_,0,rfl,fun j hj=> absurd hj (Nat.not_lt_zero j)⟩
 ·simp only[ZC8,ZCu,zy,Fact.ok,A.dens,A.den,Q.val] at hs hf⊢
  obtain⟨k0,k6,k32, -⟩:=hs
  obtain⟨f0,f55,f60,f61,f62,f63,f64,f65, -⟩:=hf
  exact ZOt k0.1 f0 f55 rfl rfl (fun h=> eqN f62 f63 ((mem1 (t0:=ρ 5) k6.1 (Or.inl (by omega))).1 h).symm) k32.1 f64 f65
 ·simp only[ZC8,ZCu,zy,Fact.ok,A.dens,A.den,Q.val] at hs hf⊢
  obtain⟨k0,k6,k33, -⟩:=hs
  obtain⟨f0,f55,f64,f65,f66,f67,f68,f69, -⟩:=hf
  exact ZOt k0.1 f0 f55 rfl rfl (fun h=> eqN f66 f67 ((mem1 (t0:=ρ 5) k6.1 (Or.inr (Or.inl (by omega)))).1 h).symm) k33.1 f68 f69
 ·simp only[ZC8,ZCu,zy,Fact.ok,A.dens,A.den,Q.val] at hs hf⊢
  obtain⟨k0,k6,k34, -⟩:=hs
  obtain⟨f0,f55,f68,f69,f70,f71,f72,f73, -⟩:=hf
  exact ZOt k0.1 f0 f55 rfl rfl (fun h=> eqN f70 f71 ((mem1 (t0:=ρ 5) k6.1 (Or.inr (Or.inr (by omega)))).1 h).symm) k34.1 f72 f73
 ·simp only[ZC8,ZCu,zy,Fact.ok,A.dens,A.den,Q.val] at hs hf⊢
  obtain⟨k0,k6,k19,k38, -⟩:=hs
  obtain⟨f0,f55,f72,f73,f74,f75,f76,f79,f87,f88,f89,f90,f91,f92, -⟩:=hf
  refine ZOt k0.1 f0 f55 rfl rfl (fun h=> ?_) k38.1 f91 f92
  rcases(mem3 (t0:=ρ 5) k6.1 (by omega) rfl).1 h with h|h|h
  ·exact eqN f74 f75 h.symm
  ·exact ZWZ f76 f79 f87 h
  ·obtain⟨p,q,e1,e2,e3⟩:=ZR4 f88
   refine eqN f89 f90 ?_
   rw[h,e1,e3]
   cases e2;rfl
 ·simp only[ZC8,ZCu,zy,Fact.ok,A.dens,A.den,Q.val] at hs hf⊢
  obtain⟨k0,k27,k36, -⟩:=hs
  obtain⟨f0,f55,f76,f77,f78,f81,f89,f90,f91, -⟩:=hf
  exact ZOt k0.1 f0 f55 rfl rfl (fun h=> ZWZ f78 f81 f89 ((ZXo (t0:=ρ 5) (by omega) rfl).1 h)) k36.1 f90 f91
 ·simp only[ZC8,ZCu,zy,Fact.ok,A.dens,A.den,Q.val] at hs hf⊢
  obtain⟨k0,k5,k34, -⟩:=hs
  obtain⟨f0,f55,f56,f59,f60,f63,f64,f67,f68,f71,f72,f75,f76,f77, -⟩:=hf
  exact ZOt k0.1 f0 f55 rfl rfl (Z1H k5.1 (eqN f56 f59) (eqN f60 f63) (eqN f64 f67) (eqN f68 f71) (eqN f72 f75)) k34.1 f76 f77
 ·simp only[ZC8,ZCu,zy,Fact.ok,A.dens,A.den,Q.val] at hs hf⊢
  obtain⟨k0,k1,k6, -⟩:=hs
  obtain⟨f0,f55,f60,f61,f62,f63, -⟩:=hf
  exact ZOj (t0:=ρ 5) (t1:=ρ 6) k0.1 k1.1 k6.1 f0 f55 rfl rfl ((mem1 (t0:=ρ 5) k6.1 (Or.inl (by omega))).2 (eqY f62 f63).symm) (show(0:Int)≠3 by decide) rfl (Int.le_refl 0) (fun h=> by have h:=h.1;omega)
 ·simp only[ZC8,ZCu,zy,Fact.ok,A.dens,A.den,Q.val] at hs hf⊢
  obtain⟨k0,k1,k6, -⟩:=hs
  obtain⟨f0,f55,f64,f65,f66,f67, -⟩:=hf
  exact ZOj (t0:=ρ 5) (t1:=ρ 6) k0.1 k1.1 k6.1 f0 f55 rfl rfl ((mem1 (t0:=ρ 5) k6.1 (Or.inr (Or.inl (by omega)))).2 (eqY f66 f67).symm) (show(1:Int)≠3 by decide) rfl (Int.le_refl 0) (fun h=> by have h:=h.1;omega)
 ·simp only[ZC8,ZCu,zy,Fact.ok,A.dens,A.den,Q.val] at hs hf⊢
  obtain⟨k0,k1,k6, -⟩:=hs
  obtain⟨f0,f55,f68,f69,f70,f71, -⟩:=hf
  exact ZOj (t0:=ρ 5) (t1:=ρ 6) k0.1 k1.1 k6.1 f0 f55 rfl rfl ((mem1 (t0:=ρ 5) k6.1 (Or.inr (Or.inr (by omega)))).2 (eqY f70 f71).symm) (show(2:Int)≠3 by decide) rfl (Int.le_refl 0) (fun h=> by have h:=h.1;omega)
 ·simp only[ZC8,ZCu,zy,Fact.ok,A.dens,A.den,Q.val] at hs hf⊢
  obtain⟨k0,k1,k6, -⟩:=hs
  obtain⟨f0,f55,f72,f73,f74,f75, -⟩:=hf
  obtain⟨i,g1,g2,g3⟩:=ZVD k0.1 f0 f55 rfl rfl ((mem3 (t0:=ρ 5) k6.1 (by omega) rfl).2 (Or.inl (eqY f74 f75).symm))
  refine ZSz (i:=i) k0.1 k1.1 g1 g2 ⟨fun _=> ?_,fun _=> rfl⟩ (Int.le_refl 0)
  rw[g3]
  refine⟨by show V.intN (ρ 5)=3;omega,?_⟩
  show ρ 1=ZEY (ρ 6)
  rw[ZMc k6.1]
  exact(eqY f74 f75).symm
 ·simp only[A.dens,A.den]
  exact⟨_,_,0,rfl,List.not_mem_nil⟩
 ·simp only[ZC8,ZCu,zy,Fact.ok,A.dens,A.den,Q.val] at hs hf⊢
  obtain⟨k19,k44, -⟩:=hs
  obtain⟨f76,f100,f101,f102,f103,f104, -⟩:=hf
  exact ZW0 k19.1 f76 f100 rfl rfl (eqN f101 f102) k44.1 f103 f104
 ·simp only[ZC8,ZCu,zy,Fact.ok,A.dens,A.den,Q.val] at hs hf⊢
  obtain⟨k0,k1,k6,k19,k34, -⟩:=hs
  obtain⟨f0,f55,f72,f73,f74,f75,f100,f101,f102, -⟩:=hf
  exact ZOj (t0:=ρ 5) (t1:=ρ 6) k0.1 k1.1 k6.1 f0 f55 rfl rfl ((mem3 (t0:=ρ 5) k6.1 (by omega) rfl).2 (Or.inr (Or.inl (by rw[←eqY f101 f102];exact ZVE k19.1 f100 rfl rfl)))) (show(4:Int)≠3 by decide) rfl (ZQj k34.1) (fun h=> eqN f74 f75 h.2.symm)
 ·simp only[ZC8,ZCu,zy,Fact.ok,A.dens,A.den,Q.val] at hs hf⊢
  obtain⟨k0,k1,k6, -⟩:=hs
  obtain⟨f0,f55,f72,f73,f74,f75,f88,f89,f90, -⟩:=hf
  obtain⟨p,q,e1,e2,e3⟩:=ZR4 f88
  exact ZOj (t0:=ρ 5) (t1:=ρ 6) k0.1 k1.1 k6.1 f0 f55 rfl rfl ((mem3 (t0:=ρ 5) k6.1 (by omega) rfl).2 (Or.inr (Or.inr (by rw[←eqY f89 f90,e1,e3];cases e2;rfl)))) (show(5:Int)≠3 by decide) rfl (Int.le_refl 0) (fun h=> eqN f74 f75 h.2.symm)
 ·simp only[A.dens,A.den]
  exact⟨_,_,0,rfl,List.not_mem_nil⟩
 ·simp only[ZC8,ZCu,zy,Fact.ok,A.dens,A.den,Q.val] at hs hf⊢
  obtain⟨k27,k53, -⟩:=hs
  obtain⟨f78,f120,f121,f122,f123,f124, -⟩:=hf
  exact ZW0 k27.1 f78 f120 rfl rfl (eqN f121 f122) k53.1 f123 f124
 ·simp only[ZC8,ZCu,zy,Fact.ok,A.dens,A.den,Q.val] at hs hf⊢
  obtain⟨k0,k1,k6,k27,k34, -⟩:=hs
  obtain⟨f0,f55,f76,f77,f120,f121,f122, -⟩:=hf
  exact ZOj (t0:=ρ 5) (t1:=ρ 6) k0.1 k1.1 k6.1 f0 f55 rfl rfl ((ZXo (t0:=ρ 5) (by omega) rfl).2 (by rw[←eqY f121 f122];exact ZVE k27.1 f120 rfl rfl)) (show(6:Int)≠3 by decide) rfl (ZQj k34.1) (fun h=> by have h:=h.1;omega)
 ·simp only[ZC8,ZCu,zy,Fact.ok,A.dens,A.den,Q.val] at hs hf⊢
  obtain⟨k0,k1, -⟩:=hs
  obtain⟨f0,f8, -⟩:=hf
  obtain⟨i,e,h⟩:=ZOs f0
  rw[e] at f8
  simp only[V.intN] at f8
  exact ZVC k0.1 k1.1 fun j hj=> h j (by omega)
end
end
end Go.Proofs.YtapdblnejhijnaaGreat.Eq
end
