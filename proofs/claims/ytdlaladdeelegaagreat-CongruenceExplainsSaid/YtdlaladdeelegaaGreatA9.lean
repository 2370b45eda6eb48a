/- What comes in, as abstract values. -/
import Derived.Test.YtdlaladdeelegaaGreatA8
import GoSem.ClaimChange
import Derived.DataReads
import Derived.ChangeSlices
set_option linter.all false
noncomputable section
namespace Go.Ae
section
section
variable (P:Program)
mutual
inductive Ty:TypeId→List V→Prop
 |bool {t:TypeId} {b:Bool} (h:P.underlying t=some .bool):Ty t [.bool b]
 |int {t:TypeId} {k:IntKind} {n:Int} (h:P.underlying t=some (.int k)) (hn:(Lit.int k n).wf=true):Ty t [.int k n]
 |str {t:TypeId} {s:ByteArray} (h:P.underlying t=some .string) (hs:s.size≤maxLen):Ty t [.str s]
 |nils {t e:TypeId} (h:P.underlying t=some (.slice e)):Ty t [.nils]
 |ze {t e:TypeId} (h:P.underlying t=some (.slice e)):Ty t [.ze]
 |vs {t e:TypeId} {cells:List V} {n:Nat} (h:P.underlying t=some (.slice e)) (hn:n≤maxLen) (he:TyE e n cells):Ty t [.vs cells n (ZmI P e) .lock]
 |strct {t:TypeId} {fs:Array Field} {cells:List V} (h:P.underlying t=some (.struct fs)) (hf:TyF fs.toList cells):Ty t cells
 |arr {t e:TypeId} {cells:List V} {n:Nat} (h:P.underlying t=some (.array n e)) (he:TyE e n cells):Ty t cells
inductive TyE:TypeId→Nat→List V→Prop
 |nil {e:TypeId}:TyE e 0 []
 |cons {e:TypeId} {n:Nat} {a b:List V} (h:Ty e a) (ht:TyE e n b):TyE e (n+1) (a++b)
inductive TyF:List Field→List V→Prop
 |nil:TyF [] []
 |cons {f:Field} {fs:List Field} {a b:List V} (h:Ty f.type a) (ht:TyF fs b):TyF (f::fs) (a++b)
end
def ZGt:List Field→Nat→Nat→Bool
 |[],o,n=> Nat.beq o n
 |f::fs,o,n=> Nat.beq f.offset o && ZGt fs (o+ZmI P f.type) n
def ZHI (S:List TypeId):Bool:=S.all fun t=> match P.underlying t with
 |some .bool|some (.int _)|some .string=> Nat.beq (ZmI P t) 1
 |some (.slice e)=> S.contains e && Nat.beq (ZmI P t) 1 && Nat.blt 0 (ZmI P e)
 |some (.struct fs)=> fs.toList.all (fun f=> S.contains f.type) && ZGt P fs.toList 0 (ZmI P t)
 |some (.array n e)=> S.contains e && Nat.beq (ZmI P t) (n * ZmI P e)
 |_=> false
variable {P}
def World.imm (w:World):Imm:=fun b o=> w.cell? ⟨b,o,none⟩
theorem zO3 {w:World} {b:Nat}:∀{cs:List V} {xs:List Value} {o:Nat},vrl (World.imm w) At.bot cs xs→(∀i,i < xs.length→w.cell? ⟨b,o+i,none⟩=xs[i]?)→vra (World.imm w) b o cs
 |[],_,_,_,_=> by simp[vra]
 |v::cs,xs,o,h,hx=> by
  simp only[vrl] at h
  obtain⟨z,zs,rfl,h1,h2⟩:=h
  simp only[vra]
  refine⟨⟨z,?_,h1⟩,zO3 h2 fun i hi=> ?_⟩
  ·have:=hx 0 (by simp)
   simpa[World.imm] using this
  ·have:=hx (i+1) (by simp;omega)
   rw[show o+1+i=o+(i+1) by omega]
   simpa using this
theorem zPn {w:World} {a:Addr} {m i:Nat} {y:Value} (h:w.cell? ((a.add m).add i)=some y):w.cell? ⟨a.block,a.off+m+i,none⟩=some y:=by
 have hs:=World.cell?_spot h
 have:(a.add m).add i=⟨a.block,a.off+m+i,none⟩:=by
  cases a with
  |mk b o sp=>
   unfold Addr.add at hs⊢
   by_cases hm:m=0 <;> by_cases hi:i=0 <;> simp[hm,hi] at hs⊢
   exact hs
 rw[←this];exact h
section
variable {H:Type} {enc:TypeId×Value→H} {w:World} {base:Nat} {held:Bool} {S:List TypeId}
theorem zXI (hS:ZHI P S=true) {t:TypeId} (ht:t∈S):(match P.underlying t with
 |some .bool|some (.int _)|some .string=> Nat.beq (ZmI P t) 1
 |some (.slice e)=> S.contains e && Nat.beq (ZmI P t) 1 && Nat.blt 0 (ZmI P e)
 |some (.struct fs)=> fs.toList.all (fun f=> S.contains f.type) && ZGt P fs.toList 0 (ZmI P t)
 |some (.array n e)=> S.contains e && Nat.beq (ZmI P t) (n * ZmI P e)
 |_=> false)=true:=List.all_eq_true.1 hS t ht
theorem zyT {e:TypeId} {fuel:Nat} {a:Addr} (ih:∀cs x,DataW.trod enc P w base (fun _=> true) held fuel e cs=some x→∃vs,Ty P e vs∧vrl (World.imm w) At.bot vs cs):
 ∀(n k:Nat) (xs:List (DataW H×List MemPlace)),((List.range' k n).mapM fun i=> (w.cells? base (a.add (i * P.cellsOf e)) (P.cellsOf e)).bind (DataW.trod enc P w base (fun _=> true) held fuel e))=some xs→
  ∃vs,TyE P e n vs∧vs.length=n * ZmI P e∧(n=0∨k≠0∨ZmI P e=0∨a.spot=none)∧vra (World.imm w) a.block (a.off+k * ZmI P e) vs
 |0,k,xs,_=> ⟨[],.nil,by simp,Or.inl rfl,by simp[vra]⟩
 |n+1,k,xs,h=> by
  rw[List.range'_succ,List.mapM_cons] at h
  cases h1:(w.cells? base (a.add (k * P.cellsOf e)) (P.cellsOf e)).bind (DataW.trod enc P w base (fun _=> true) held fuel e) with
  |none=> rw[h1] at h;cases h
  |some x=>
   rw[h1] at h
   cases h2:((List.range' (k+1) n).mapM fun i=> (w.cells? base (a.add (i * P.cellsOf e)) (P.cellsOf e)).bind (DataW.trod enc P w base (fun _=> true) held fuel e)) with
   |none=>
    have h':(do let rest←((List.range' (k+1) n).mapM fun i=> (w.cells? base (a.add (i * P.cellsOf e)) (P.cellsOf e)).bind (DataW.trod enc P w base (fun _=> true) held fuel e));pure (x::rest))=some xs:=h
    rw[h2] at h';cases h'
   |some ys=>
    obtain⟨vs2,t2,l2,s2,r2⟩:=zyT ih n (k+1) ys h2
    cases h3:w.cells? base (a.add (k * P.cellsOf e)) (P.cellsOf e) with
    |none=> rw[h3] at h1;cases h1
    |some cs=>
     rw[h3] at h1
     obtain⟨vs1,t1,r1⟩:=ih cs x h1
     obtain⟨-,hl,hc⟩:=World.cells?_some h3
     have hsz:P.cellsOf e=ZmI P e:=rfl
     rw[hsz] at hl hc
     have hv1:vs1.length=ZmI P e:=(Zg r1).symm.trans hl
     have hcell:∀i,i < ZmI P e→w.cell? ⟨a.block,a.off+k * ZmI P e+i,none⟩=cs[i]?:=by
      intro i hi
      have h0:=hc i hi
      have hci:cs[i]?=some (cs[i]'(by omega)):=List.getElem?_eq_getElem (by omega)
      rw[hci] at h0⊢
      exact zPn h0
     refine⟨vs1++vs2,.cons t1 t2,by rw[List.length_append,hv1,l2,Nat.succ_mul];omega,?_,?_⟩
     ·rcases Nat.eq_zero_or_pos k with hk|hk
      ·rcases Nat.eq_zero_or_pos (ZmI P e) with h0|h0
       ·exact Or.inr (Or.inr (Or.inl h0))
       ·right;right;right
        have h4:=hc 0 h0
        have hci:cs[0]?=some (cs[0]'(by omega)):=List.getElem?_eq_getElem (by omega)
        rw[hci] at h4
        have h5:=World.cell?_spot h4
        rw[hk,Nat.zero_mul] at h5
        simpa[Addr.add] using h5
      ·exact Or.inr (Or.inl (by omega))
     ·refine zO2 (zO3 r1 fun i hi=> hcell i (by omega)) ?_
      rw[hv1,show a.off+k * ZmI P e+ZmI P e=a.off+(k+1) * ZmI P e by rw[Nat.succ_mul];omega]
      exact r2
theorem zDR {fuel:Nat} {cs:List Value} (ih:∀t∈S,∀cs x,DataW.trod enc P w base (fun _=> true) held fuel t cs=some x→∃vs,Ty P t vs∧vrl (World.imm w) At.bot vs cs∧vs.length=ZmI P t):
 ∀(fs:List Field) (o:Nat) (xs:List (DataW H×List MemPlace)),(∀f∈fs,f.type∈S)→ZGt P fs o cs.length=true→(fs.mapM fun f=> DataW.trod enc P w base (fun _=> true) held fuel f.type ((cs.drop f.offset).take (P.cellsOf f.type)))=some xs→
  ∃vs,TyF P fs vs∧vrl (World.imm w) At.bot vs (cs.drop o)∧vs.length=cs.length - o
 |[],o,xs,_,ht,_=> by
  have:o=cs.length:=Nat.eq_of_beq_eq_true ht
  subst this
  exact⟨[],.nil,by simp[vrl],by simp⟩
 |f::fs,o,xs,hS,ht,h=> by
  unfold ZGt at ht
  rw[Bool.and_eq_true] at ht
  obtain⟨h0,ht⟩:=ht
  have h0:f.offset=o:=Nat.eq_of_beq_eq_true h0
  rw[List.mapM_cons] at h
  cases h1:DataW.trod enc P w base (fun _=> true) held fuel f.type ((cs.drop f.offset).take (P.cellsOf f.type)) with
  |none=> rw[h1] at h;cases h
  |some x=>
   rw[h1] at h
   cases h2:(fs.mapM fun f=> DataW.trod enc P w base (fun _=> true) held fuel f.type ((cs.drop f.offset).take (P.cellsOf f.type))) with
   |none=>
    have h':(do let rest←(fs.mapM fun f=> DataW.trod enc P w base (fun _=> true) held fuel f.type ((cs.drop f.offset).take (P.cellsOf f.type)));pure (x::rest))=some xs:=h
    rw[h2] at h';cases h'
   |some ys=>
    obtain⟨vs1,t1,r1,l1⟩:=ih f.type (hS f (List.mem_cons_self ..)) _ x h1
    obtain⟨vs2,t2,r2,l2⟩:=zDR ih fs (o+ZmI P f.type) ys (fun g hg=> hS g (List.mem_cons_of_mem _ hg)) ht h2
    have hln:=Zg r1
    rw[l1,h0,List.length_take,List.length_drop] at hln
    have hsz:P.cellsOf f.type=ZmI P f.type:=rfl
    rw[hsz] at hln
    refine⟨vs1++vs2,.cons t1 t2,?_,?_⟩
    ·have:=QW r1 r2
     rw[h0,hsz,←List.drop_drop,List.take_append_drop] at this
     exact this
    ·rw[List.length_append,l1,l2];omega
theorem zOg {e:TypeId} {fuel:Nat} {cs:List Value} (ih:∀cs x,DataW.trod enc P w base (fun _=> true) held fuel e cs=some x→∃vs,Ty P e vs∧vrl (World.imm w) At.bot vs cs∧vs.length=ZmI P e):
 ∀(n k:Nat) (xs:List (DataW H×List MemPlace)),cs.length=(k+n) * ZmI P e→((List.range' k n).mapM fun i=> DataW.trod enc P w base (fun _=> true) held fuel e ((cs.drop (i * P.cellsOf e)).take (P.cellsOf e)))=some xs→
  ∃vs,TyE P e n vs∧vrl (World.imm w) At.bot vs (cs.drop (k * ZmI P e))∧vs.length=n * ZmI P e
 |0,k,xs,hl,_=> ⟨[],.nil,by rw[List.drop_of_length_le (by rw[hl];simp)];simp[vrl],by simp⟩
 |n+1,k,xs,hl,h=> by
  rw[List.range'_succ,List.mapM_cons] at h
  have hsz:P.cellsOf e=ZmI P e:=rfl
  cases h1:DataW.trod enc P w base (fun _=> true) held fuel e ((cs.drop (k * P.cellsOf e)).take (P.cellsOf e)) with
  |none=> rw[h1] at h;cases h
  |some x=>
   rw[h1] at h
   cases h2:((List.range' (k+1) n).mapM fun i=> DataW.trod enc P w base (fun _=> true) held fuel e ((cs.drop (i * P.cellsOf e)).take (P.cellsOf e))) with
   |none=>
    have h':(do let rest←((List.range' (k+1) n).mapM fun i=> DataW.trod enc P w base (fun _=> true) held fuel e ((cs.drop (i * P.cellsOf e)).take (P.cellsOf e)));pure (x::rest))=some xs:=h
    rw[h2] at h';cases h'
   |some ys=>
    obtain⟨vs1,t1,r1,l1⟩:=ih _ x h1
    obtain⟨vs2,t2,r2,l2⟩:=zOg ih n (k+1) ys (by rw[hl];congr 1;omega) h2
    refine⟨vs1++vs2,.cons t1 t2,?_,?_⟩
    ·have:=QW r1 r2
     rw[hsz,Nat.succ_mul,←List.drop_drop,List.take_append_drop] at this
     exact this
    ·rw[List.length_append,l1,l2,Nat.succ_mul];omega
theorem zOX (hS:ZHI P S=true):∀(fuel:Nat) (t:TypeId),t∈S→∀(cs:List Value) (x:DataW H×List MemPlace),DataW.trod enc P w base (fun _=> true) held fuel t cs=some x→∃vs,Ty P t vs∧vrl (World.imm w) At.bot vs cs∧vs.length=ZmI P t
 |0,t,ht,cs,x,h=> by unfold DataW.trod at h;cases h
 |fuel+1,t,ht,cs,x,h=> by
  have ih:=zOX hS fuel
  have hp:=zXI hS ht
  unfold DataW.trod at h
  split at h
  ·rename_i b hu
   rw[hu] at hp
   exact⟨[.bool b],.bool hu,by simp[vrl,vr],(Nat.eq_of_beq_eq_true hp).symm⟩
  ·rename_i k k' n hu
   rw[hu] at hp
   split at h
   ·rename_i hk
    obtain⟨rfl,hw⟩:=hk
    exact⟨[.int k' n],.int hu hw,by simp[vrl,vr],(Nat.eq_of_beq_eq_true hp).symm⟩
   ·cases h
  ·rename_i hu;rw[hu] at hp;cases hp
  ·rename_i s hu
   rw[hu] at hp
   split at h
   ·rename_i hk
    exact⟨[.str s],.str hu hk,by simp[vrl,vr],(Nat.eq_of_beq_eq_true hp).symm⟩
   ·cases h
  ·rename_i hu;rw[hu] at hp;cases hp
  ·rename_i hu;rw[hu] at hp;cases hp
  ·rename_i e hu
   rw[hu] at hp
   simp only[Bool.and_eq_true] at hp
   exact⟨[.nils],.nils hu,by simp[vrl,vr],(Nat.eq_of_beq_eq_true hp.1.2).symm⟩
  ·rename_i e a len cap hu
   rw[hu] at hp
   simp only[Bool.and_eq_true] at hp
   obtain⟨⟨he,hz⟩,hpos⟩:=hp
   have hz:ZmI P t=1:=Nat.eq_of_beq_eq_true hz
   have hpos:0 < ZmI P e:=by simpa[Nat.blt_eq] using hpos
   have he:e∈S:=by simpa using he
   simp only at h
   split at h
   ·rename_i hb
    obtain⟨hb1,hb2,hb3⟩:=hb
    cases h1:((List.range len).mapM fun i=> (w.cells? base (a.add (i * P.cellsOf e)) (P.cellsOf e)).bind (DataW.trod enc P w base (fun _=> true) held fuel e)) with
    |none=> rw[h1] at h;cases h
    |some xs=>
     rw[h1] at h
     rw[List.range_eq_range'] at h1
     obtain⟨vs,t1,l1,s1,r1⟩:=zyT (fun cs x hx=> by obtain⟨vs,a1,a2,_⟩:=ih e he cs x hx;exact⟨vs,a1,a2⟩) len 0 xs h1
     rw[Nat.zero_mul,Nat.add_zero] at r1
     cases hcap:cap with
     |zero=>
      have:len=0:=by omega
      subst this
      exact⟨[.ze],.ze hu,by simp[vrl,vr],hz.symm⟩
     |succ c=>
      have hsp:a.spot=none:=by
       rcases Nat.eq_zero_or_pos len with h0|h0
       ·subst h0
        simp only[Option.bind_some,if_true] at h
        cases h2:((List.range (cap - 0)).mapM fun j=> (w.cells? base (a.add ((0+j) * P.cellsOf e)) (P.cellsOf e)).bind (DataW.trod enc P w base (fun _=> true) held fuel e)) with
        |none=> rw[h2] at h;cases h
        |some ys=>
         simp only[Nat.zero_add,Nat.sub_zero] at h2
         rw[List.range_eq_range'] at h2
         obtain⟨_,_,_,s2,_⟩:=zyT (fun cs x hx=> by obtain⟨vs,a1,a2,_⟩:=ih e he cs x hx;exact⟨vs,a1,a2⟩) cap 0 ys h2
         rcases s2 with h4|h4|h4|h4
         ·omega
         ·exact absurd rfl h4
         ·omega
         ·exact h4
       ·rcases s1 with h4|h4|h4|h4
        ·omega
        ·exact absurd rfl h4
        ·omega
        ·exact h4
      refine⟨[.vs vs len (ZmI P e) .lock],.vs hu (by omega) t1,?_,hz.symm⟩
      simp only[vrl,vr]
      refine⟨_,[],rfl,⟨a.block,a.off,c+1,?_,by omega,l1,r1,trivial⟩,rfl⟩
      cases a
      simp only at hsp
      rw[hsp]
   ·cases h
  ·rename_i cs _ cs2 fs hu
   rw[hu] at hp
   simp only[Bool.and_eq_true,List.all_eq_true] at hp
   obtain⟨hf,htl⟩:=hp
   split at h
   ·rename_i hlen
    have hlen:cs.length=ZmI P t:=hlen
    cases h1:(fs.toList.mapM fun f=> DataW.trod enc P w base (fun _=> true) held fuel f.type ((cs.drop f.offset).take (P.cellsOf f.type))) with
    |none=> rw[h1] at h;cases h
    |some xs=>
     rw[←hlen] at htl
     obtain⟨vs,t1,r1,l1⟩:=zDR ih fs.toList 0 xs (fun f hf'=> by simpa using hf f hf') htl h1
     exact⟨vs,.strct hu t1,by simpa using r1,by rw[l1,hlen];omega⟩
   ·cases h
  ·rename_i cs _ cs2 n e hu
   rw[hu] at hp
   simp only[Bool.and_eq_true] at hp
   obtain⟨he,hz⟩:=hp
   have he:e∈S:=by simpa using he
   have hz:ZmI P t=n * ZmI P e:=Nat.eq_of_beq_eq_true hz
   split at h
   ·rename_i hlen
    have hlen:cs.length=ZmI P t:=hlen
    cases h1:((List.range n).mapM fun i=> DataW.trod enc P w base (fun _=> true) held fuel e ((cs.drop (i * P.cellsOf e)).take (P.cellsOf e))) with
    |none=> rw[h1] at h;cases h
    |some xs=>
     rw[List.range_eq_range'] at h1
     obtain⟨vs,t1,r1,l1⟩:=zOg (ih e he) n 0 xs (by rw[hlen,hz,Nat.zero_add]) h1
     exact⟨vs,.arr hu t1,by simpa using r1,by rw[l1,hz]⟩
   ·cases h
  all_goals first
   |(rename_i hu _;rw[hu] at hp;cases hp;done)
   |(rename_i hu;rw[hu] at hp;cases hp;done)
   |cases h
   |skip
end
end
end
end Go.Ae
end
