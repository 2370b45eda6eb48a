/- The law returns true. -/
import Derived.Test.YtapdblnejhijnaaGreatG1
import Derived.Test.YtapdblnejhijnaaGreatG2
import Derived.Test.YtapdblnejhijnaaGreatG3
set_option linter.all false
noncomputable section
namespace Go.Proofs.YtapdblnejhijnaaGreat.Eq
section
open Go Go.Ae
section
theorem ZSU:∀c∈ZGS.mks,Mk2.ok Tryz.prog KD hint0 ks c:=fun c hc=> by cases hc
theorem ZXV {l:List Nat} {t:List CE} (h:ZFe Tryz.prog KD hint0 ks t):ZFe Tryz.prog KD hint0 ks (outT l t):=fun e he=> h e (List.mem_filter.1 he).1
theorem ZKs {t t':List CE} {s:Spc} (h':ZFe Tryz.prog KD hint0 ks t') (h:ZFe Tryz.prog KD hint0 ks t) (hc:ZGR Tryz.prog KD hint0 t' ZGS 200 s=true):ZFe Tryz.prog KD hint0 ks (s.ce::t):=by
 unfold ZGR at hc
 split at hc
 ·rename_i hv
  have h1:=ZKF hKD hkn ZSU h' hv trivial
  intro e he
  rcases List.mem_cons.1 he with rfl|he
  ·exact h1 _ (List.mem_cons_self ..)
  ·exact h e he
 ·cases hc
theorem ZYR:ZFe Tryz.prog KD hint0 ks ZUt:=ZKs ZYH ZYH Z03
theorem ZZb:ZFe Tryz.prog KD hint0 ks ZUM:=ZKs ZYR ZYR Z1m
theorem ZYS:ZFe Tryz.prog KD hint0 ks ZUu:=ZKs ZZb ZZb Z04
theorem ZYJ:ZFe Tryz.prog KD hint0 ks ZUl:=ZKs ZYS ZYS Z0V
theorem ZYK:ZFe Tryz.prog KD hint0 ks ZUm:=ZKs ZYJ ZYJ Z0W
theorem ZYL:ZFe Tryz.prog KD hint0 ks ZUn:=ZKs ZYK ZYK Z0X
theorem ZYM:ZFe Tryz.prog KD hint0 ks ZUo:=ZKs ZYL ZYL Z0Y
theorem ZY6:ZFe Tryz.prog KD hint0 ks ZUH:=ZKs ZYM ZYM Z1h
theorem ZY2:ZFe Tryz.prog KD hint0 ks ZUE:=ZKs ZY6 ZY6 Z1e
theorem ZY9:ZFe Tryz.prog KD hint0 ks ZUK:=ZKs ZY2 ZY2 Z1k
theorem ZYT:ZFe Tryz.prog KD hint0 ks ZUv:=ZKs ZY9 ZY9 Z05
theorem ZZa:ZFe Tryz.prog KD hint0 ks ZUL:=ZKs ZYT ZYT Z1l
theorem ZY8:ZFe Tryz.prog KD hint0 ks ZUJ:=ZKs ZZa ZZa Z1j
theorem ZY4:ZFe Tryz.prog KD hint0 ks ZUG:=ZKs ZY8 ZY8 Z1g
theorem ZYU:ZFe Tryz.prog KD hint0 ks ZUw:=ZKs ZY4 ZY4 Z06
theorem ZYZ:ZFe Tryz.prog KD hint0 ks ZUB:=ZKs ZYU ZYU Z1b
theorem ZYW:ZFe Tryz.prog KD hint0 ks ZUy:=ZKs ZYZ ZYZ Z08
theorem ZYV:ZFe Tryz.prog KD hint0 ks ZUx:=ZKs ZYW ZYW Z07
theorem ZYN:ZFe Tryz.prog KD hint0 ks ZUp:=ZKs ZYV ZYV Z0Z
theorem ZYO:ZFe Tryz.prog KD hint0 ks ZUq:=ZKs ZYN ZYN Z00
theorem ZY1:ZFe Tryz.prog KD hint0 ks ZUD:=ZKs ZYO ZYO Z1d
theorem ZY0:ZFe Tryz.prog KD hint0 ks ZUC:=ZKs ZY1 ZY1 Z1c
theorem ZYX:ZFe Tryz.prog KD hint0 ks ZUz:=ZKs ZY0 ZY0 Z09
theorem ZYY:ZFe Tryz.prog KD hint0 ks ZUA:=ZKs (ZXV ZYX) ZYX Z1a
theorem ZYQ:ZFe Tryz.prog KD hint0 ks ZUs:=ZKs (ZXV ZYY) ZYY Z02
theorem ZYP:ZFe Tryz.prog KD hint0 ks ZUr:=ZKs ZYQ ZYQ Z01
theorem ZY7:ZFe Tryz.prog KD hint0 ks ZUI:=ZKs ZYP ZYP Z1i
theorem ZY3:ZFe Tryz.prog KD hint0 ks ZUF:=ZKs ZY7 ZY7 Z1f
theorem ZYI:ZFe Tryz.prog KD hint0 ks ZUk:=ZKs ZY3 ZY3 Z0U
theorem ZY5:ZFe Tryz.prog KD hint0 ks tg4:=ZKs ZYI ZYI kg4
theorem Z2X:ZFe Tryz.prog KD hint0 ks tg5:=ZKs ZY5 ZY5 kg5
end
section
def ZLY:List V→Prop:=fun l=> ∃a b,l=[a,b,.bool true]
theorem ZUN {a b w:V} (h:w=.bool true):ZLY (vns [a,b,w]):=by subst h;exact⟨_,_,rfl⟩
theorem Z21 {a b w:V} (h:ZLY (vns [a,b,w])):w=.bool true:=by
 obtain⟨a',b',h⟩:=h
 have h:[ZFf a,ZFf b,ZFf w]=_:=h
 simp only[List.cons.injEq,and_true] at h
 exact ZOD h.2.2
theorem Z1O {v:V} {b:Bool} (h:ZKp v=.bool b):v=.bool b:=by cases v <;> first|exact h|cases h
section
variable {P:Program} {KD:TypeId→Bool→List K} {e:TypeId} {rf:Bool} {mx:Nat}
theorem ZVx {env lv okv:V} {t a x y:List V} (ka:TK P KD (.sl e rf mx) env) (h:ZGT (vns [env,.agg t,.tup [.agg a,.agg x,.agg y,lv,okv]])):∃ok hd ar,okv=.bool ok∧SpR (dns t) hd ar∧ZOO (ZLF env) hd ar (dns a) (dns x) (dns y) (dn lv) ok:=by
 obtain⟨env',t',a',x',y',lv',ok,hd,ar,h1,h2,h3⟩:=h
 have h1:[ZFf env,.agg (t.map ZEY),.tup [.agg (a.map ZEY),.agg (x.map ZEY),.agg (y.map ZEY),ZKp lv,ZKp okv]]=_:=h1
 simp only[List.cons.injEq,V.agg.injEq,V.tup.injEq,and_true] at h1
 obtain⟨rfl,rfl,rfl,rfl,rfl,rfl,h4⟩:=h1
 rw[ZKt] at h2
 unfold ZOO at h3
 rw[ZKt,ZKt,ZKt,ZP1] at h3
 simp only[ZPY ka] at h3
 exact⟨ok,hd,ar,Z1O h4,h2,h3⟩
theorem ZO3 {env lv lv' okv okv':V} {t a x y a' x' y':List V} (ka:TK P KD (.sl e rf mx) env) (h:ZGT (vns [env,.agg t,.tup [.agg a,.agg x,.agg y,lv,okv]])) (h':ZGT (vns [env,.agg t,.tup [.agg a',.agg x',.agg y',lv',okv']])):
 dn (.agg a)=dn (.agg a')∧dn (.agg x)=dn (.agg x')∧dn (.agg y)=dn (.agg y')∧dn lv=dn lv'∧okv=okv':=by
 obtain⟨ok,hd,ar,rfl,h2,h3⟩:=ZVx ka h
 obtain⟨ok',hd',ar',rfl,g2,g3⟩:=ZVx ka h'
 obtain⟨rfl,rfl⟩:=Z2w h2 g2
 rcases h3 with ⟨rfl,c1,c2,c3,c4,c5,c6⟩|⟨rfl,c1,c3,c4,c5,c6⟩ <;> rcases g3 with ⟨rfl,d1,d2,d3,d4,d5,d6⟩|⟨rfl,d1,d3,d4,d5,d6⟩
 ·exact⟨congrArg V.agg (c3.trans d3.symm),congrArg V.agg (c4.trans d4.symm),congrArg V.agg (c5.trans d5.symm),c6.trans d6.symm,rfl⟩
 ·exact absurd ⟨c1,c2⟩ d1
 ·exact absurd ⟨d1,d2⟩ c1
 ·exact⟨congrArg V.agg (c3.trans d3.symm),congrArg V.agg (c4.trans d4.symm),congrArg V.agg (c5.trans d5.symm),c6.trans d6.symm,rfl⟩
end
def g6:Spc:={f:=6,ps:=[],r:=.one (.tt true)}
theorem Z20:ZK0 Tryz.prog KD hint0 ks 6 [] g6.al false [] none:=by
 intro args ha _ _ _ _ n
 cases args with
 |cons a l=> cases ha
 |nil=>
  refine⟨{v:=.bool true},?_,ZMp ⟨fun cs hv=> (by cases hv),fun u vs hv=> by cases hv⟩,{r:=.one (.tt true)},List.mem_cons_self ..,rfl,⟨fun c hc=> (by cases hc),fun Q hQ=> by cases hQ⟩,fun j hj=> by cases hj⟩
  have h6:ks.call 6 []=some (V.bool true):=by
   show(if (6:Nat)=6∧([]:List V)=[] then some (V.bool true) else none)=_
   rw[if_pos ⟨rfl,rfl⟩]
  unfold ZC3
  rw[h6]
def tg6:List CE:=g6.ce::tg5
theorem Z2Y:ZFe Tryz.prog KD hint0 ks tg6:=fun e he=> by
 rcases List.mem_cons.1 he with rfl|he
 ·exact⟨rfl,Z20,rfl⟩
 ·exact Z2X e he
def c10:List (List Nat×List Nat):=[([0,1],[0])]
def s10:Spc:={f:=10,ps:=[Ls,Ls],r:=b1,post:=some ZEZ,cuts:=c10}
def v10:List VC:=[
 ⟨[(0,⟨(.sl 53 false 1048576),true⟩),(1,⟨(.sl 53 false 1048576),true⟩)],[.pr (fun l=> ZEZ (vns l)) [(.agg [(.k (.int .i64 3)),(.k (.int .i64 0)),(.k (.str ⟨#[]⟩)),.s 0,.k .nils]),(.agg [(.k (.int .i64 3)),(.k (.int .i64 0)),(.k (.str ⟨#[]⟩)),.s 1,.k .nils]),.s 2]],fun l=> ZEZ (vns l),[.s 0,.s 1,.s 2]⟩]
theorem k10:ZGO Tryz.prog KD hint0 tg6 ZGS 200 (ZKw s10) s10=some v10:=by kernel_rfl
theorem x10:VCs Tryz.prog KD v10:=by
 refine⟨fun ρ hs hf=> ?_,trivial⟩
 simp only[zy,Fact.ok,A.dens,A.den,Q.val] at hf
 simp only[A.dens,A.den]
 obtain⟨f0, -⟩:=hf
 obtain⟨r,e,h⟩:=ZMX f0
 show ZEZ (vns [ρ 0,ρ 1,ρ 2])
 rw[e]
 refine ZPC (h.trans ?_)
 rw[ZLw]
 simp
def ZZc:List CE:=s10.ce::tg6
theorem Z2W:ZFe Tryz.prog KD hint0 ks ZZc:=ZKF hKD hkn ZSU Z2Y k10 x10
def c3:List (List Nat×List Nat):=[([],[]),([],[]),([0],[14,15,16,17,18,19,20,21,22,23,24]),([0],[14,15,16,17,18,19,20,21,22,23]),([0],[14,15,16,17,18,19,20,21]),([0],[14,15,16,17,18,19]),([0],[14,15,16,17])]
def s3:Spc:={f:=3,ps:=[Env,.ag Tk],r:=b1,post:=some ZLY,pre:=[(0,0,M),(1,3,M),(1,4,M)],cuts:=c3}
def v3:List VC:=[
 ⟨[],[],fun l=> ZLY (vns l),[.s 0,(.agg [.s 1,.s 2,.s 3,.s 4,.s 5]),(.k (.bool true))]⟩,
 ⟨[],[],fun l=> ZLY (vns l),[.s 0,(.agg [.s 1,.s 2,.s 3,.s 4,.s 5]),(.k (.bool true))]⟩,
 ⟨[(0,⟨(.sl 49 false 1048576),true⟩)],[.pr (fun l=> ZGT (vns l)) [.s 0,(.agg [.s 1,.s 2,.s 3,.s 4,.s 5]),(.tup [(.agg [.s 10,.s 11,.s 12,.s 13,.s 14]),(.agg [.s 15,.s 16,.s 17,.s 18,.s 19]),(.agg [.s 20,.s 21,.s 22,.s 23,.s 24]),.s 25,.s 26])],.pr (fun l=> ZGT (vns l)) [.s 0,(.agg [.s 1,.s 2,.s 3,.s 4,.s 5]),(.tup [(.agg [.s 27,.s 28,.s 29,.s 30,.s 31]),(.agg [.s 32,.s 33,.s 34,.s 35,.s 36]),(.agg [.s 37,.s 38,.s 39,.s 40,.s 41]),.s 42,.s 43])],.pr (fun l=> ZEZ (vns l)) [(.agg [.s 10,.s 11,.s 12,.s 13,.s 14]),(.agg [.s 27,.s 28,.s 29,.s 30,.s 31]),.s 44],.kb 44 true,.pr (fun l=> ZEZ (vns l)) [(.agg [.s 15,.s 16,.s 17,.s 18,.s 19]),(.agg [.s 32,.s 33,.s 34,.s 35,.s 36]),.s 45],.kb 45 true,.pr (fun l=> ZEZ (vns l)) [(.agg [.s 20,.s 21,.s 22,.s 23,.s 24]),(.agg [.s 37,.s 38,.s 39,.s 40,.s 41]),.s 46],.kb 46 true,.pr (fun l=> ZEZ (vns l)) [.s 25,.s 42,.s 47],.kb 47 true,.pr (eqQ true) [.s 26,.s 43,.s 48]],fun l=> ZLY (vns l),[.s 0,(.agg [.s 1,.s 2,.s 3,.s 4,.s 5]),.s 48]⟩,
 ⟨[(0,⟨(.sl 49 false 1048576),true⟩)],[.pr (fun l=> ZGT (vns l)) [.s 0,(.agg [.s 1,.s 2,.s 3,.s 4,.s 5]),(.tup [(.agg [.s 10,.s 11,.s 12,.s 13,.s 14]),(.agg [.s 15,.s 16,.s 17,.s 18,.s 19]),(.agg [.s 20,.s 21,.s 22,.s 23,.s 24]),.s 25,.s 26])],.pr (fun l=> ZGT (vns l)) [.s 0,(.agg [.s 1,.s 2,.s 3,.s 4,.s 5]),(.tup [(.agg [.s 27,.s 28,.s 29,.s 30,.s 31]),(.agg [.s 32,.s 33,.s 34,.s 35,.s 36]),(.agg [.s 37,.s 38,.s 39,.s 40,.s 41]),.s 42,.s 43])],.pr (fun l=> ZEZ (vns l)) [(.agg [.s 10,.s 11,.s 12,.s 13,.s 14]),(.agg [.s 27,.s 28,.s 29,.s 30,.s 31]),.s 44],.kb 44 true,.pr (fun l=> ZEZ (vns l)) [(.agg [.s 15,.s 16,.s 17,.s 18,.s 19]),(.agg [.s 32,.s 33,.s 34,.s 35,.s 36]),.s 45],.kb 45 true,.pr (fun l=> ZEZ (vns l)) [(.agg [.s 20,.s 21,.s 22,.s 23,.s 24]),(.agg [.s 37,.s 38,.s 39,.s 40,.s 41]),.s 46],.kb 46 true,.pr (fun l=> ZEZ (vns l)) [.s 25,.s 42,.s 47],.kb 47 false],fun l=> ZLY (vns l),[.s 0,(.agg [.s 1,.s 2,.s 3,.s 4,.s 5]),(.k (.bool false))]⟩,
 ⟨[(0,⟨(.sl 49 false 1048576),true⟩)],[.pr (fun l=> ZGT (vns l)) [.s 0,(.agg [.s 1,.s 2,.s 3,.s 4,.s 5]),(.tup [(.agg [.s 10,.s 11,.s 12,.s 13,.s 14]),(.agg [.s 15,.s 16,.s 17,.s 18,.s 19]),(.agg [.s 20,.s 21,.s 22,.s 23,.s 24]),.s 25,.s 26])],.pr (fun l=> ZGT (vns l)) [.s 0,(.agg [.s 1,.s 2,.s 3,.s 4,.s 5]),(.tup [(.agg [.s 27,.s 28,.s 29,.s 30,.s 31]),(.agg [.s 32,.s 33,.s 34,.s 35,.s 36]),(.agg [.s 37,.s 38,.s 39,.s 40,.s 41]),.s 42,.s 43])],.pr (fun l=> ZEZ (vns l)) [(.agg [.s 10,.s 11,.s 12,.s 13,.s 14]),(.agg [.s 27,.s 28,.s 29,.s 30,.s 31]),.s 44],.kb 44 true,.pr (fun l=> ZEZ (vns l)) [(.agg [.s 15,.s 16,.s 17,.s 18,.s 19]),(.agg [.s 32,.s 33,.s 34,.s 35,.s 36]),.s 45],.kb 45 true,.pr (fun l=> ZEZ (vns l)) [(.agg [.s 20,.s 21,.s 22,.s 23,.s 24]),(.agg [.s 37,.s 38,.s 39,.s 40,.s 41]),.s 46],.kb 46 false],fun l=> ZLY (vns l),[.s 0,(.agg [.s 1,.s 2,.s 3,.s 4,.s 5]),(.k (.bool false))]⟩,
 ⟨[(0,⟨(.sl 49 false 1048576),true⟩)],[.pr (fun l=> ZGT (vns l)) [.s 0,(.agg [.s 1,.s 2,.s 3,.s 4,.s 5]),(.tup [(.agg [.s 10,.s 11,.s 12,.s 13,.s 14]),(.agg [.s 15,.s 16,.s 17,.s 18,.s 19]),(.agg [.s 20,.s 21,.s 22,.s 23,.s 24]),.s 25,.s 26])],.pr (fun l=> ZGT (vns l)) [.s 0,(.agg [.s 1,.s 2,.s 3,.s 4,.s 5]),(.tup [(.agg [.s 27,.s 28,.s 29,.s 30,.s 31]),(.agg [.s 32,.s 33,.s 34,.s 35,.s 36]),(.agg [.s 37,.s 38,.s 39,.s 40,.s 41]),.s 42,.s 43])],.pr (fun l=> ZEZ (vns l)) [(.agg [.s 10,.s 11,.s 12,.s 13,.s 14]),(.agg [.s 27,.s 28,.s 29,.s 30,.s 31]),.s 44],.kb 44 true,.pr (fun l=> ZEZ (vns l)) [(.agg [.s 15,.s 16,.s 17,.s 18,.s 19]),(.agg [.s 32,.s 33,.s 34,.s 35,.s 36]),.s 45],.kb 45 false],fun l=> ZLY (vns l),[.s 0,(.agg [.s 1,.s 2,.s 3,.s 4,.s 5]),(.k (.bool false))]⟩,
 ⟨[(0,⟨(.sl 49 false 1048576),true⟩)],[.pr (fun l=> ZGT (vns l)) [.s 0,(.agg [.s 1,.s 2,.s 3,.s 4,.s 5]),(.tup [(.agg [.s 10,.s 11,.s 12,.s 13,.s 14]),(.agg [.s 15,.s 16,.s 17,.s 18,.s 19]),(.agg [.s 20,.s 21,.s 22,.s 23,.s 24]),.s 25,.s 26])],.pr (fun l=> ZGT (vns l)) [.s 0,(.agg [.s 1,.s 2,.s 3,.s 4,.s 5]),(.tup [(.agg [.s 27,.s 28,.s 29,.s 30,.s 31]),(.agg [.s 32,.s 33,.s 34,.s 35,.s 36]),(.agg [.s 37,.s 38,.s 39,.s 40,.s 41]),.s 42,.s 43])],.pr (fun l=> ZEZ (vns l)) [(.agg [.s 10,.s 11,.s 12,.s 13,.s 14]),(.agg [.s 27,.s 28,.s 29,.s 30,.s 31]),.s 44],.kb 44 false],fun l=> ZLY (vns l),[.s 0,(.agg [.s 1,.s 2,.s 3,.s 4,.s 5]),(.k (.bool false))]⟩]
theorem k3:ZGO Tryz.prog KD hint0 ZZc ZGS 200 (ZKw s3) s3=some v3:=by kernel_rfl
theorem x3:VCs Tryz.prog KD v3:=by
 refine⟨fun ρ hs hf=> ?_,fun ρ hs hf=> ?_,fun ρ hs hf=> ?_,fun ρ hs hf=> ?_,fun ρ hs hf=> ?_,fun ρ hs hf=> ?_,fun ρ hs hf=> ?_,trivial⟩
 ·simp only[A.dens,A.den]
  exact ZUN rfl
 ·simp only[A.dens,A.den]
  exact ZUN rfl
 ·simp only[ZC8,ZCu,zy,Fact.ok,A.dens,A.den,Q.val] at hs hf⊢
  obtain⟨k0, -⟩:=hs
  obtain⟨f14,f15,f16,f17,f18,f19,f20,f21,f22,f23,f24, -⟩:=hf
  obtain⟨-, -, -, -,c5⟩:=ZO3 k0.1 f14 f15
  obtain⟨b,e,h⟩:=eqE f24
  exact ZUN (by rw[e,h.2 c5])
 ·simp only[ZC8,ZCu,zy,Fact.ok,A.dens,A.den,Q.val] at hs hf⊢
  obtain⟨k0, -⟩:=hs
  obtain⟨f14,f15,f16,f17,f18,f19,f20,f21,f22,f23, -⟩:=hf
  exact absurd (ZO3 k0.1 f14 f15).2.2.2.1 (ZLE f22 f23)
 ·simp only[ZC8,ZCu,zy,Fact.ok,A.dens,A.den,Q.val] at hs hf⊢
  obtain⟨k0, -⟩:=hs
  obtain⟨f14,f15,f16,f17,f18,f19,f20,f21, -⟩:=hf
  exact absurd (ZO3 k0.1 f14 f15).2.2.1 (ZLE f20 f21)
 ·simp only[ZC8,ZCu,zy,Fact.ok,A.dens,A.den,Q.val] at hs hf⊢
  obtain⟨k0, -⟩:=hs
  obtain⟨f14,f15,f16,f17,f18,f19, -⟩:=hf
  exact absurd (ZO3 k0.1 f14 f15).2.1 (ZLE f18 f19)
 ·simp only[ZC8,ZCu,zy,Fact.ok,A.dens,A.den,Q.val] at hs hf⊢
  obtain⟨k0, -⟩:=hs
  obtain⟨f14,f15,f16,f17, -⟩:=hf
  exact absurd (ZO3 k0.1 f14 f15).1 (ZLE f16 f17)
theorem Z0q {args:List V} (h:mes 0 0 args≤M∧mes 1 3 args≤M∧mes 1 4 args≤M):∀q∈s3.pre,mes q.1 q.2.1 args≤q.2.2:=fun q hq=> by
 rcases List.mem_cons.1 hq with rfl|hq
 ·exact h.1
 ·rcases List.mem_cons.1 hq with rfl|hq
  ·exact h.2.1
  ·obtain rfl:=List.mem_singleton.1 hq
   exact h.2.2
theorem law {env:V} {t:List V} (ke:TK Tryz.prog KD (.sl 49 false M) env) (kt:TKs Tryz.prog KD Tk t) (hp:V.pure env=true) (hpt:V.pures t=true) (h:mes 0 0 [env,.agg t]≤M∧mes 1 3 [env,.agg t]≤M∧mes 1 4 [env,.agg t]≤M):
 ∃h1,(EV Tryz.prog hint0 ks).call 3 [env,.agg t] H.empty=some [(.ret (.bool true),h1)]:=by
 obtain⟨-,v,h1,hc,al,ha, -,hpo, -⟩:=ZVi hKD hkn ZSU Z2W k3 x3 [env,.agg t] ⟨ke,⟨t,rfl,kt⟩,trivial⟩ (by show(V.pure env && (V.pures t && true))=true;rw[hp,hpt];rfl) (fun hs=> by cases hs) (Z0q h) (fun t ht=> by cases ht)
 obtain rfl:=List.mem_singleton.1 ha
 have hq:ZLY (vns ([env,.agg t]++[v])):=hpo.2 _ rfl
 have hv:=Z21 hq
 subst hv
 exact⟨h1,hc⟩
end
end
end Go.Proofs.YtapdblnejhijnaaGreat.Eq
end
