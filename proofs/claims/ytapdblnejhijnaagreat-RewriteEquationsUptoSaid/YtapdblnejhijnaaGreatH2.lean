/- What comes in. -/
import Derived.Test.YtapdblnejhijnaaGreatH1
import Derived.Test.YtapdblnejhijnaaGreatY6
import Derived.Test.YtapdblnejhijnaaGreatE0
import Derived.Test.YtapdblnejhijnaaGreatRows
import Derived.ProofKit
set_option linter.all false
noncomputable section
namespace Go.Proofs.YtapdblnejhijnaaGreat.Eq
section
open Go Go.Ae Go.RowKit Go.ChangeShapes Go.WideShapes Go.ChangeAt
section
theorem u22:Tryz.prog.underlying 22=some (.slice 49):=by kernel_rfl
theorem u4:Tryz.prog.underlying 4=some .bool:=by kernel_rfl
def ZJv:List TypeId:=[22,26,49,3,9,23,24,44,46,47,53,91,205,51,203,88,201,274,4]
theorem zYn:ZHI Tryz.prog ZJv=true:=by kernel_rfl
theorem ZXc:ZPp Tryz.prog M KD ZJv=true:=by kernel_rfl
theorem Z0a:flatK Tryz.prog M 9 22=some [.sl 49 false M]:=by kernel_rfl
theorem Z0b:flatK Tryz.prog M 9 26=some Tk:=by kernel_rfl
section
variable {H:Type}
theorem ZXR (d:DataW H):1≤Rows.uptoBulk d:=by
 cases d with
 |lit l=> cases l <;> simp[Rows.uptoBulk]
 |_=> simp[Rows.uptoBulk]
theorem ZTx {d:DataW H} {l:List (DataW H)} (h:d∈l):Rows.uptoBulk d≤Rows.uptoBulkAll l:=by
 induction l with
 |nil=> cases h
 |cons x r ih=>
  simp only[Rows.uptoBulkAll]
  rcases List.mem_cons.1 h with rfl|h
  ·omega
  ·have:=ih h;omega
theorem Z1v (l:List (DataW H)):l.length≤Rows.uptoBulkAll l:=by
 induction l with
 |nil=> simp[Rows.uptoBulkAll]
 |cons x r ih=> have:=ZXR x;simp only[Rows.uptoBulkAll,List.length_cons];omega
theorem ZVf:Bulk (H:=H) Rows.uptoBulk Rows.uptoBulkAll where
 one:=ZXR
 cons d l:=by simp only[Rows.uptoBulkAll];omega
 sl es sp:=by simp only[Rows.uptoBulk];omega
 ag ps:=by simp only[Rows.uptoBulk];omega
 str b:=by simp[Rows.uptoBulk]
 len es sp:=by have:=Z1v es;simp only[Rows.uptoBulk];omega
 el es sp d h:=by
  simp only[Rows.uptoBulk]
  rcases h with h|h
  ·have:=ZTx h;omega
  ·have:=ZTx h;omega
 pt ps d h:=by have:=ZTx h;simp only[Rows.uptoBulk];omega
variable {enc:TypeId×Value→H} {W:World}
theorem in_env {v:Value} {d:DataW H} {p:List MemPlace} (hb:Rows.uptoBulk d≤M) (h:DataW.Trod enc Tryz.prog W 0 (fun _=> true) true 22 v d p) (hv:v.cells.toList=[v]):
 ∃env,TK Tryz.prog KD (.sl 49 false M) env∧V.pure env=true∧V.rk env≤M∧vr (World.imm W) At.bot env v:=by
 obtain⟨fuel,h⟩:=h
 obtain⟨vs,h1,h2, -,h4⟩:=zOX ZVf zYn fuel 22 (by decide) _ _ h hb
 have hk:=ZRY zYn ZXc h1 (by decide) 9 _ Z0a
 have hp:=ZRX h1
 rw[hv] at h2
 cases hk with
 |cons hk ht=>
  cases ht
  simp only[vrl] at h2
  obtain⟨x,xs,hx,h5,_⟩:=h2
  cases hx
  have hp:(V.pure _ && true)=true:=hp
  rw[Bool.and_true] at hp
  simp only[V.rks] at h4
  exact⟨_,hk,hp,by omega,h5⟩
theorem in_term {cs:Array Value} {d:DataW H} {p:List MemPlace} (hb:Rows.uptoBulk d≤M) (h:DataW.Trod enc Tryz.prog W 0 (fun _=> true) true 26 (.agg cs) d p):
 ∃t,TKs Tryz.prog KD Tk t∧V.pures t=true∧V.rks t≤M∧vr (World.imm W) At.bot (.agg t) (.agg cs):=by
 obtain⟨fuel,h⟩:=h
 obtain⟨vs,h1,h2, -,h4⟩:=zOX ZVf zYn fuel 26 (by decide) _ _ h hb
 refine⟨vs,ZRY zYn ZXc h1 (by decide) 9 _ Z0b,ZRX h1,Nat.le_trans h4 hb,?_⟩
 simp only[vr]
 exact⟨cs,rfl,h2⟩
end
theorem mes_env {env:V} {t:List V} (hk:TK Tryz.prog KD (.sl 49 false M) env) (h:V.rk env≤M):mes 0 0 [env,.agg t]≤M:=by
 cases hk <;> exact h
theorem mes_term {env:V} {t:List V} {c:Nat} (h:V.rks t≤M):mes 1 c [env,.agg t]≤M:=by
 show(match t[c]? with
  |some v=> V.rk v
  |none=> 0)≤M
 cases hc:t[c]? with
 |none=> exact Nat.zero_le _
 |some v=> exact Nat.le_trans (ZRG (List.mem_of_getElem? hc)) h
theorem zWx:KnOk Tryz.prog ks:=by
 have hm:((6,[],(.bool true)):FuncId×List V×V)∈Tb.t55:=List.mem_append_left _ (List.mem_cons_self ..)
 have h6:=Tb.Z1S _ hm
 have hk:∀(f:FuncId) (args:List V) (v:V),ks.call f args=some v→f=6∧args=[]∧v=.bool true:=by
  intro f args v h
  by_cases hc:f=6∧args=[]
  ·have h':(if f=6∧args=[] then some (V.bool true) else none)=some v:=h
   rw[if_pos hc] at h'
   exact⟨hc.1,hc.2,(Option.some.inj h').symm⟩
  ·have h':(if f=6∧args=[] then some (V.bool true) else none)=some v:=h
   rw[if_neg hc] at h'
   cases h'
 refine⟨fun f args v h=> ?_,fun f args v h=> ?_,fun _ _ _ _ _ h=> by cases h⟩
 ·obtain⟨rfl,rfl,rfl⟩:=hk f args v h
  exact h6.2
 ·obtain⟨rfl,rfl,rfl⟩:=hk f args v h
  exact h6.1
theorem zQ2:ZES Tryz.prog ks:=fun f h=> by cases h
def gIn (w:World):G:=⟨World.imm w,fun _=> 0,fun _=> 0,fun _=> 0⟩
theorem zZr (w:World):WR (gIn w) H.empty.get 0 w where
 imm _ _ _ h:=h
 blk r hr:=absurd hr (Nat.not_lt_zero r)
 inj r _ hr:=absurd hr (Nat.not_lt_zero r)
theorem calls_true {n:FuncId} {l:List V} {W:World} {args:Array Value} (h:∃h1,(EV Tryz.prog hint0 ks).call n l H.empty=some [(.ret (.bool true),h1)]) (hv:vrl (World.imm W) At.bot l args.toList):
 Calls Tryz.prog n args W fun e W'=> e=.returned (.bool true)∧Below W.heap.size W W':=by
 obtain⟨h1,hc⟩:=h
 have hcall:=(zyG zWx zQ2 Tb.zX hc).2 (gIn W) args W H.wf_empty (zZr W) (QJ (Imm.le_refl _) (At.bot_le _) hv)
 refine(callsIn_wide.1 hcall).mono fun e W' ⟨x,r,hr,he,g',hwf,hWR,hE,hx⟩=> ?_
 obtain rfl:=List.mem_singleton.1 hr
 have hx':x=.bool true:=by simpa[R.v,vr] using hx
 refine⟨?_,⟨hE.os,hE.tape,hE.output,hE.size,fun k hk=> hE.frame k hk ?_⟩⟩
 ·rw[hx'] at he
  exact he
 ·rintro⟨r,hr,_⟩
  exact absurd hr (Nat.not_lt_zero r)
end
end
end Go.Proofs.YtapdblnejhijnaaGreat.Eq
end
