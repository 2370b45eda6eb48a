/- What comes in. -/
import Derived.Test.YtdlaladdeelegaaGreatF9
import Derived.Test.YtdlaladdeelegaaGreatA9
import Derived.Test.YtdlaladdeelegaaGreatRows
import Derived.ProofKit
set_option linter.all false
noncomputable section
namespace Go.Proofs.YtdlaladdeelegaaGreat.Cg
section
open Go Go.Ae Go.RowKit Go.ChangeShapes Go.WideShapes Go.ChangeAt
section
def ZHK (P:Program) (t:TypeId):Option (List TypeId):=match P.underlying t with
 |some (.struct fs)=> some (fs.toList.map (·.type))
 |_=> none
inductive TyT (P:Program):List TypeId→List V→Prop
 |nil:TyT P [] []
 |cons {t:TypeId} {ts:List TypeId} {a b:List V} (h:Ty P t a) (ht:TyT P ts b):TyT P (t::ts) (a++b)
theorem zZc {P:Program}:∀{fs:List Field} {cells:List V},TyF P fs cells→TyT P (fs.map (·.type)) cells:=by
 intro fs
 induction fs with
 |nil=> intro cells h;cases h;exact .nil
 |cons f fs ih=> intro cells h;cases h with|cons h ht=> exact .cons h (ih ht)
theorem zZh {P:Program} {t:TypeId} {ts:List TypeId} (hs:ZHK P t=some ts) {cells:List V} (h:Ty P t cells):TyT P ts cells:=by
 unfold ZHK at hs
 cases h with
 |strct hu hf=> rw[hu] at hs;obtain rfl:=Option.some.inj hs;exact zZc hf
 |bool hu|int hu|str hu|nils hu|ze hu|vs hu|arr hu=> rw[hu] at hs;cases hs
theorem zC8 {P:Program} {t:TypeId} {k:IntKind} (hs:P.underlying t=some (.int k)) {cells:List V} (h:Ty P t cells):∃n,cells=[.int k n]∧(Lit.int k n).wf=true:=by
 cases h with
 |int hu hn=> rw[hu] at hs;cases hs;exact⟨_,rfl,hn⟩
 |strct hu|bool hu|str hu|nils hu|ze hu|vs hu|arr hu=> rw[hu] at hs;cases hs
theorem zZg {P:Program} {t e:TypeId} (hs:P.underlying t=some (.slice e)) {cells:List V} (h:Ty P t cells):cells=[.nils]∨cells=[.ze]∨∃cs n,cells=[.vs cs n (ZmI P e) .lock]∧n≤maxLen∧TyE P e n cs:=by
 cases h with
 |nils hu=> exact Or.inl rfl
 |ze hu=> exact Or.inr (Or.inl rfl)
 |vs hu hn he=> rw[hu] at hs;cases hs;exact Or.inr (Or.inr ⟨_,_,rfl,hn,he⟩)
 |strct hu|int hu|bool hu|str hu|arr hu=> rw[hu] at hs;cases hs
theorem zZd {P:Program} {t e:TypeId} {n:Nat} (hs:P.underlying t=some (.array n e)) {cells:List V} (h:Ty P t cells):TyE P e n cells:=by
 cases h with
 |arr hu he=> rw[hu] at hs;cases hs;exact he
 |strct hu|int hu|bool hu|str hu|nils hu|ze hu|vs hu=> rw[hu] at hs;cases hs
theorem u3:Tryz.prog.underlying 3=some (.int .i64):=by kernel_rfl
theorem u4:Tryz.prog.underlying 4=some .bool:=by kernel_rfl
theorem u22:Tryz.prog.underlying 22=some (.slice 42):=by kernel_rfl
theorem u42:Tryz.prog.underlying 42=some (.array 2 3):=by kernel_rfl
theorem s24:ZHK Tryz.prog 24=some [3,22,22]:=by kernel_rfl
def ZJv:List TypeId:=[24,22,42,3]
theorem zYn:ZHI Tryz.prog ZJv=true:=by kernel_rfl
theorem zZe {cells:List V} (h:Ty Tryz.prog 42 cells):∃p:PrI,cells=[.int .i64 p.1,.int .i64 p.2]:=by
 cases zZd u42 h with
 |cons h1 h2=>
  obtain⟨a,rfl,_⟩:=zC8 u3 h1
  cases h2 with
  |cons h3 h4=>
   obtain⟨b,rfl,_⟩:=zC8 u3 h3
   cases h4
   exact⟨(a,b),rfl⟩
theorem zOY {cells:List V} (h:Ty Tryz.prog 22 cells):∃v l,cells=[v]∧InS v l:=by
 rcases zZg u22 h with rfl|rfl|⟨cs,n,rfl,hn,he⟩
 ·exact⟨_,[],rfl,.inl ⟨rfl,rfl⟩⟩
 ·exact⟨_,[],rfl,.inr (.inl ⟨rfl,rfl⟩)⟩
 ·have key:∀(n:Nat) (cs:List V),TyE Tryz.prog 42 n cs→∃l:List PrI,cs=ZC1 l∧l.length=n:=by
   intro n
   induction n with
   |zero=> intro cs h;cases h;exact⟨[],rfl,rfl⟩
   |succ n ih=>
    intro cs h
    cases h with
    |cons h ht=>
     obtain⟨p,rfl⟩:=zZe h
     obtain⟨ls,rfl,rfl⟩:=ih _ ht
     exact⟨p::ls,rfl,rfl⟩
  obtain⟨l,rfl,rfl⟩:=key n cs he
  exact⟨_,l,rfl,.inr (.inr ⟨.lock,by rw[ZCx]⟩)⟩
theorem zZf {cells:List V} (h:Ty Tryz.prog 24 cells):∃(t:Int) (av mv:V) (la lm:List PrI),cells=[.int .i64 t,av,mv]∧InS av la∧InS mv lm:=by
 cases zZh s24 h with
 |cons h1 h2=> cases h2 with
  |cons h3 h4=> cases h4 with
   |cons h5 h6=>
    cases h6
    obtain⟨t,rfl,_⟩:=zC8 u3 h1
    obtain⟨av,la,rfl,ha⟩:=zOY h3
    obtain⟨mv,lm,rfl,hm⟩:=zOY h5
    exact⟨t,av,mv,la,lm,rfl,ha,hm⟩
theorem zWx:KnOk Tryz.prog ks:=by
 have hm:((8,[],(.bool true)):FuncId×List V×V)∈Tb.t34:=List.mem_append_left _ (List.mem_cons_self ..)
 have h8:=Tb.ZJ6 _ hm
 have hk:∀(f:FuncId) (args:List V) (v:V),ks.call f args=some v→f=8∧args=[]∧v=.bool true:=by
  intro f args v h
  by_cases hc:f=8∧args=[]
  ·have h':(if f=8∧args=[] then some (V.bool true) else none)=some v:=h
   rw[if_pos hc] at h'
   exact⟨hc.1,hc.2,(Option.some.inj h').symm⟩
  ·have h':(if f=8∧args=[] then some (V.bool true) else none)=some v:=h
   rw[if_neg hc] at h'
   cases h'
 refine⟨fun f args v h=> ?_,fun f args v h=> ?_,fun _ _ _ _ _ h=> by cases h⟩
 ·obtain⟨rfl,rfl,rfl⟩:=hk f args v h
  exact h8.2
 ·obtain⟨rfl,rfl,rfl⟩:=hk f args v h
  exact h8.1
theorem zQ2:ZES Tryz.prog ks:=fun f h=> by cases h
def gIn (w:World):G:=⟨World.imm w,fun _=> 0,fun _=> 0,fun _=> 0⟩
theorem zZr (w:World):WR (gIn w) H.empty.get 0 w where
 imm _ _ _ h:=h
 blk r hr:=absurd hr (Nat.not_lt_zero r)
 inj r _ hr:=absurd hr (Nat.not_lt_zero r)
theorem zPQ {n:FuncId} {l:List V} {W:World} {args:Array Value} (h:ZCm (fun v _ _=> v=.bool true) ((EV Tryz.prog hs ks).call n l (mkH 0 (fun _=> .gone) []))) (hv:vrl (World.imm W) At.bot l args.toList):
 Calls Tryz.prog n args W fun e W'=> e=.returned (.bool true)∧Below W.heap.size W W':=by
 obtain⟨v,nb,g,d,hc,rfl⟩:=h
 rw[←zDI] at hc
 have hcall:=(zyG zWx zQ2 Tb.zX hc).2 (gIn W) args W H.wf_empty (zZr W) (QJ (Imm.le_refl _) (At.bot_le _) hv)
 refine(callsIn_wide.1 hcall).mono fun e W' ⟨x,r,hr,he,g',hwf,hWR,hE,hx⟩=> ?_
 obtain rfl:=List.mem_singleton.1 hr
 have hx':x=.bool true:=by simpa[R.v,vr] using hx
 refine⟨?_,⟨hE.os,hE.tape,hE.output,hE.size,fun k hk=> hE.frame k hk ?_⟩⟩
 ·rw[hx'] at he
  exact he
 ·rintro⟨r,hr,_⟩
  exact absurd hr (Nat.not_lt_zero r)
end
end
end Go.Proofs.YtdlaladdeelegaaGreat.Cg
end
