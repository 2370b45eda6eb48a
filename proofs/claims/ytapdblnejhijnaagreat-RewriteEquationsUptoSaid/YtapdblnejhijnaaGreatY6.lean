/- What comes in, with a bound of its bulk. -/
import Derived.Test.YtapdblnejhijnaaGreatY5
import GoSem.ClaimChange
import Derived.DataReads
import Derived.ChangeSlices
set_option linter.all false
noncomputable section
namespace Go.Ae
section
section
variable (P:Program) (m:Nat)
mutual
inductive Ty:TypeId→List V→Prop
 |bool {t:TypeId} {b:Bool} (h:P.underlying t=some .bool):Ty t [.bool b]
 |int {t:TypeId} {k:IntKind} {n:Int} (h:P.underlying t=some (.int k)) (hn:(Lit.int k n).wf=true):Ty t [.int k n]
 |str {t:TypeId} {s:ByteArray} (h:P.underlying t=some .string) (hs:s.size≤maxLen) (hm:s.size≤m):Ty t [.str s]
 |nils {t e:TypeId} (h:P.underlying t=some (.slice e)):Ty t [.nils]
 |ze {t e:TypeId} (h:P.underlying t=some (.slice e)):Ty t [.ze]
 |vs {t e:TypeId} {cells:List V} {n:Nat} (h:P.underlying t=some (.slice e)) (hn:n≤maxLen) (hm:n≤m) (he:TyE e n cells):Ty t [.vs cells n (ZmI P e) .lock]
 |strct {t:TypeId} {fs:Array Field} {cells:List V} (h:P.underlying t=some (.struct fs)) (hf:TyF fs.toList cells):Ty t cells
 |arr {t e:TypeId} {cells:List V} {n:Nat} (h:P.underlying t=some (.array n e)) (he:TyE e n cells):Ty t cells
inductive TyE:TypeId→Nat→List V→Prop
 |nil {e:TypeId}:TyE e 0 []
 |cons {e:TypeId} {n:Nat} {a b:List V} (h:Ty e a) (ht:TyE e n b):TyE e (n+1) (a++b)
inductive TyF:List Field→List V→Prop
 |nil:TyF [] []
 |cons {f:Field} {fs:List Field} {a b:List V} (h:Ty f.type a) (ht:TyF fs b):TyF (f::fs) (a++b)
end
def ZGt:List Field→Nat→Nat→Bool
 |[],o,n=> Nat.beq o n
 |f::fs,o,n=> Nat.beq f.offset o && ZGt fs (o+ZmI P f.type) n
def ZHI (S:List TypeId):Bool:=S.all fun t=> match P.underlying t with
 |some .bool|some (.int _)|some .string=> Nat.beq (ZmI P t) 1
 |some (.slice e)=> S.contains e && Nat.beq (ZmI P t) 1 && Nat.blt 0 (ZmI P e)
 |some (.struct fs)=> fs.toList.all (fun f=> S.contains f.type) && ZGt P fs.toList 0 (ZmI P t)
 |some (.array n e)=> S.contains e && Nat.beq (ZmI P t) (n * ZmI P e)
 |_=> false
variable {P} {m:Nat}
structure Bulk {H:Type} (B:DataW H→Nat) (BA:List (DataW H)→Nat):Prop where
 one:∀d,1≤B d
 cons:∀d l,B d+BA l≤BA (d::l)
 sl:∀es sp,BA es+1≤B (.slice es sp)
 ag:∀ps,BA ps≤B (.agg ps)
 str:∀b:List UInt8,b.length≤B (.lit (.string b))
 len:∀es sp,es.length≤B (.slice es sp)
 el:∀es sp d,d∈es∨d∈sp→B d≤B (.slice es sp)
 pt:∀ps d,d∈ps→B d≤B (.agg ps)
def World.imm (w:World):Imm:=fun b o=> w.cell? ⟨b,o,none⟩
theorem zO3 {w:World} {b:Nat}:∀{cs:List V} {xs:List Value} {o:Nat},vrl (World.imm w) At.bot cs xs→(∀i,i < xs.length→w.cell? ⟨b,o+i,none⟩=xs[i]?)→vra (World.imm w) b o cs
 |[],_,_,_,_=> by simp[vra]
 |v::cs,xs,o,h,hx=> by
  simp only[vrl] at h
  obtain⟨z,zs,rfl,h1,h2⟩:=h
  simp only[vra]
  refine⟨⟨z,?_,h1⟩,zO3 h2 fun i hi=> ?_⟩
  ·have:=hx 0 (by simp)
   simpa[World.imm] using this
  ·have:=hx (i+1) (by simp;omega)
   rw[show o+1+i=o+(i+1) by omega]
   simpa using this
theorem zPn {w:World} {a:Addr} {m i:Nat} {y:Value} (h:w.cell? ((a.add m).add i)=some y):w.cell? ⟨a.block,a.off+m+i,none⟩=some y:=by
 have hs:=World.cell?_spot h
 have:(a.add m).add i=⟨a.block,a.off+m+i,none⟩:=by
  cases a with
  |mk b o sp=>
   unfold Addr.add at hs⊢
   by_cases hm:m=0 <;> by_cases hi:i=0 <;> simp[hm,hi] at hs⊢
   exact hs
 rw[←this];exact h
section
variable {H:Type} {enc:TypeId×Value→H} {w:World} {base:Nat} {held:Bool} {S:List TypeId} {B:DataW H→Nat} {BA:List (DataW H)→Nat}
theorem zXI (hS:ZHI P S=true) {t:TypeId} (ht:t∈S):(match P.underlying t with
 |some .bool|some (.int _)|some .string=> Nat.beq (ZmI P t) 1
 |some (.slice e)=> S.contains e && Nat.beq (ZmI P t) 1 && Nat.blt 0 (ZmI P e)
 |some (.struct fs)=> fs.toList.all (fun f=> S.contains f.type) && ZGt P fs.toList 0 (ZmI P t)
 |some (.array n e)=> S.contains e && Nat.beq (ZmI P t) (n * ZmI P e)
 |_=> false)=true:=List.all_eq_true.1 hS t ht
theorem ZXk {α β:Type} {f:α→Option β}:∀{l:List α} {xs:List β},l.mapM f=some xs→xs.length=l.length
 |[],xs,h=> by
  rw[List.mapM_nil] at h
  obtain rfl:=Option.some.inj h
  rfl
 |a::l,xs,h=> by
  rw[List.mapM_cons] at h
  cases h1:f a with
  |none=> rw[h1] at h;cases h
  |some x=>
   rw[h1] at h
   cases h2:l.mapM f with
   |none=> have h':(do let rest←l.mapM f;pure (x::rest))=some xs:=h;rw[h2] at h';cases h'
   |some ys=>
    have h':(do let rest←l.mapM f;pure (x::rest))=some xs:=h
    rw[h2] at h'
    obtain rfl:=Option.some.inj h'
    rw[List.length_cons,List.length_cons,ZXk h2]
theorem zyT {e:TypeId} {fuel:Nat} {a:Addr} (ih:∀cs x,DataW.trod enc P w base (fun _=> true) held fuel e cs=some x→B x.1≤m→∃vs,Ty P m e vs∧vrl (World.imm w) At.bot vs cs∧V.rks vs≤B x.1) (hB:Bulk B BA):
 ∀(n k:Nat) (xs:List (DataW H×List MemPlace)),((List.range' k n).mapM fun i=> (w.cells? base (a.add (i * P.cellsOf e)) (P.cellsOf e)).bind (DataW.trod enc P w base (fun _=> true) held fuel e))=some xs→(∀x∈xs,B x.1≤m)→
  ∃vs,TyE P m e n vs∧vs.length=n * ZmI P e∧(n=0∨k≠0∨ZmI P e=0∨a.spot=none)∧vra (World.imm w) a.block (a.off+k * ZmI P e) vs∧V.rks vs≤BA (xs.map (·.1))
 |0,k,xs,_,_=> ⟨[],.nil,by simp,Or.inl rfl,by simp[vra],Nat.zero_le _⟩
 |n+1,k,xs,h,hb=> by
  rw[List.range'_succ,List.mapM_cons] at h
  cases h1:(w.cells? base (a.add (k * P.cellsOf e)) (P.cellsOf e)).bind (DataW.trod enc P w base (fun _=> true) held fuel e) with
  |none=> rw[h1] at h;cases h
  |some x=>
   rw[h1] at h
   cases h2:((List.range' (k+1) n).mapM fun i=> (w.cells? base (a.add (i * P.cellsOf e)) (P.cellsOf e)).bind (DataW.trod enc P w base (fun _=> true) held fuel e)) with
   |none=>
    have h':(do let rest←((List.range' (k+1) n).mapM fun i=> (w.cells? base (a.add (i * P.cellsOf e)) (P.cellsOf e)).bind (DataW.trod enc P w base (fun _=> true) held fuel e));pure (x::rest))=some xs:=h
    rw[h2] at h';cases h'
   |some ys=>
    rw[h2] at h
    have hxs:x::ys=xs:=Option.some.inj h
    subst hxs
    obtain⟨vs2,t2,l2,s2,r2,q2⟩:=zyT ih hB n (k+1) ys h2 fun y hy=> hb y (List.mem_cons_of_mem _ hy)
    cases h3:w.cells? base (a.add (k * P.cellsOf e)) (P.cellsOf e) with
    |none=> rw[h3] at h1;cases h1
    |some cs=>
     rw[h3] at h1
     obtain⟨vs1,t1,r1,q1⟩:=ih cs x h1 (hb x (List.mem_cons_self ..))
     obtain⟨-,hl,hc⟩:=World.cells?_some h3
     have hsz:P.cellsOf e=ZmI P e:=rfl
     rw[hsz] at hl hc
     have hv1:vs1.length=ZmI P e:=(Zg r1).symm.trans hl
     have hcell:∀i,i < ZmI P e→w.cell? ⟨a.block,a.off+k * ZmI P e+i,none⟩=cs[i]?:=by
      intro i hi
      have h0:=hc i hi
      have hci:cs[i]?=some (cs[i]'(by omega)):=List.getElem?_eq_getElem (by omega)
      rw[hci] at h0⊢
      exact zPn h0
     refine⟨vs1++vs2,.cons t1 t2,by rw[List.length_append,hv1,l2,Nat.succ_mul];omega,?_,?_⟩
     ·rcases Nat.eq_zero_or_pos k with hk|hk
      ·rcases Nat.eq_zero_or_pos (ZmI P e) with h0|h0
       ·exact Or.inr (Or.inr (Or.inl h0))
       ·right;right;right
        have h4:=hc 0 h0
        have hci:cs[0]?=some (cs[0]'(by omega)):=List.getElem?_eq_getElem (by omega)
        rw[hci] at h4
        have h5:=World.cell?_spot h4
        rw[hk,Nat.zero_mul] at h5
        simpa[Addr.add] using h5
      ·exact Or.inr (Or.inl (by omega))
     ·refine⟨zO2 (zO3 r1 fun i hi=> hcell i (by omega)) ?_,?_⟩
      ·rw[hv1,show a.off+k * ZmI P e+ZmI P e=a.off+(k+1) * ZmI P e by rw[Nat.succ_mul];omega]
       exact r2
      ·rw[ZMy,List.map_cons]
       have:=hB.cons x.1 (ys.map (·.1))
       omega
theorem zDR {fuel:Nat} {cs:List Value} (ih:∀t∈S,∀cs x,DataW.trod enc P w base (fun _=> true) held fuel t cs=some x→B x.1≤m→∃vs,Ty P m t vs∧vrl (World.imm w) At.bot vs cs∧vs.length=ZmI P t∧V.rks vs≤B x.1) (hB:Bulk B BA):
 ∀(fs:List Field) (o:Nat) (xs:List (DataW H×List MemPlace)),(∀f∈fs,f.type∈S)→ZGt P fs o cs.length=true→(fs.mapM fun f=> DataW.trod enc P w base (fun _=> true) held fuel f.type ((cs.drop f.offset).take (P.cellsOf f.type)))=some xs→(∀x∈xs,B x.1≤m)→
  ∃vs,TyF P m fs vs∧vrl (World.imm w) At.bot vs (cs.drop o)∧vs.length=cs.length - o∧V.rks vs≤BA (xs.map (·.1))
 |[],o,xs,_,ht,_,_=> by
  have:o=cs.length:=Nat.eq_of_beq_eq_true ht
  subst this
  exact⟨[],.nil,by simp[vrl],by simp,Nat.zero_le _⟩
 |f::fs,o,xs,hS,ht,h,hb=> by
  unfold ZGt at ht
  rw[Bool.and_eq_true] at ht
  obtain⟨h0,ht⟩:=ht
  have h0:f.offset=o:=Nat.eq_of_beq_eq_true h0
  rw[List.mapM_cons] at h
  cases h1:DataW.trod enc P w base (fun _=> true) held fuel f.type ((cs.drop f.offset).take (P.cellsOf f.type)) with
  |none=> rw[h1] at h;cases h
  |some x=>
   rw[h1] at h
   cases h2:(fs.mapM fun f=> DataW.trod enc P w base (fun _=> true) held fuel f.type ((cs.drop f.offset).take (P.cellsOf f.type))) with
   |none=>
    have h':(do let rest←(fs.mapM fun f=> DataW.trod enc P w base (fun _=> true) held fuel f.type ((cs.drop f.offset).take (P.cellsOf f.type)));pure (x::rest))=some xs:=h
    rw[h2] at h';cases h'
   |some ys=>
    rw[h2] at h
    have hxs:x::ys=xs:=Option.some.inj h
    subst hxs
    obtain⟨vs1,t1,r1,l1,q1⟩:=ih f.type (hS f (List.mem_cons_self ..)) _ x h1 (hb x (List.mem_cons_self ..))
    obtain⟨vs2,t2,r2,l2,q2⟩:=zDR ih hB fs (o+ZmI P f.type) ys (fun g hg=> hS g (List.mem_cons_of_mem _ hg)) ht h2 fun y hy=> hb y (List.mem_cons_of_mem _ hy)
    have hln:=Zg r1
    rw[l1,h0,List.length_take,List.length_drop] at hln
    have hsz:P.cellsOf f.type=ZmI P f.type:=rfl
    rw[hsz] at hln
    refine⟨vs1++vs2,.cons t1 t2,?_,?_,by rw[ZMy,List.map_cons];have:=hB.cons x.1 (ys.map (·.1));omega⟩
    ·have:=QW r1 r2
     rw[h0,hsz,←List.drop_drop,List.take_append_drop] at this
     exact this
    ·rw[List.length_append,l1,l2];omega
theorem zOg {e:TypeId} {fuel:Nat} {cs:List Value} (ih:∀cs x,DataW.trod enc P w base (fun _=> true) held fuel e cs=some x→B x.1≤m→∃vs,Ty P m e vs∧vrl (World.imm w) At.bot vs cs∧vs.length=ZmI P e∧V.rks vs≤B x.1) (hB:Bulk B BA):
 ∀(n k:Nat) (xs:List (DataW H×List MemPlace)),cs.length=(k+n) * ZmI P e→((List.range' k n).mapM fun i=> DataW.trod enc P w base (fun _=> true) held fuel e ((cs.drop (i * P.cellsOf e)).take (P.cellsOf e)))=some xs→(∀x∈xs,B x.1≤m)→
  ∃vs,TyE P m e n vs∧vrl (World.imm w) At.bot vs (cs.drop (k * ZmI P e))∧vs.length=n * ZmI P e∧V.rks vs≤BA (xs.map (·.1))
 |0,k,xs,hl,_,_=> ⟨[],.nil,by rw[List.drop_of_length_le (by rw[hl];simp)];simp[vrl],by simp,Nat.zero_le _⟩
 |n+1,k,xs,hl,h,hb=> by
  rw[List.range'_succ,List.mapM_cons] at h
  have hsz:P.cellsOf e=ZmI P e:=rfl
  cases h1:DataW.trod enc P w base (fun _=> true) held fuel e ((cs.drop (k * P.cellsOf e)).take (P.cellsOf e)) with
  |none=> rw[h1] at h;cases h
  |some x=>
   rw[h1] at h
   cases h2:((List.range' (k+1) n).mapM fun i=> DataW.trod enc P w base (fun _=> true) held fuel e ((cs.drop (i * P.cellsOf e)).take (P.cellsOf e))) with
   |none=>
    have h':(do let rest←((List.range' (k+1) n).mapM fun i=> DataW.trod enc P w base (fun _=> true) held fuel e ((cs.drop (i * P.cellsOf e)).take (P.cellsOf e)));pure (x::rest))=some xs:=h
    rw[h2] at h';cases h'
   |some ys=>
    rw[h2] at h
    have hxs:x::ys=xs:=Option.some.inj h
    subst hxs
    obtain⟨vs1,t1,r1,l1,q1⟩:=ih _ x h1 (hb x (List.mem_cons_self ..))
    obtain⟨vs2,t2,r2,l2,q2⟩:=zOg ih hB n (k+1) ys (by rw[hl];congr 1;omega) h2 fun y hy=> hb y (List.mem_cons_of_mem _ hy)
    refine⟨vs1++vs2,.cons t1 t2,?_,?_,by rw[ZMy,List.map_cons];have:=hB.cons x.1 (ys.map (·.1));omega⟩
    ·have:=QW r1 r2
     rw[hsz,Nat.succ_mul,←List.drop_drop,List.take_append_drop] at this
     exact this
    ·rw[List.length_append,l1,l2,Nat.succ_mul];omega
theorem zOX (hB:Bulk B BA) (hS:ZHI P S=true):∀(fuel:Nat) (t:TypeId),t∈S→∀(cs:List Value) (x:DataW H×List MemPlace),DataW.trod enc P w base (fun _=> true) held fuel t cs=some x→B x.1≤m→∃vs,Ty P m t vs∧vrl (World.imm w) At.bot vs cs∧vs.length=ZmI P t∧V.rks vs≤B x.1
 |0,t,ht,cs,x,h,_=> by unfold DataW.trod at h;cases h
 |fuel+1,t,ht,cs,x,h,hx=> by
  have ih:=zOX hB hS fuel
  have hp:=zXI hS ht
  unfold DataW.trod at h
  split at h
  ·rename_i b hu
   rw[hu] at hp
   exact⟨[.bool b],.bool hu,by simp[vrl,vr],(Nat.eq_of_beq_eq_true hp).symm,hB.one _⟩
  ·rename_i k k' n hu
   rw[hu] at hp
   split at h
   ·rename_i hk
    obtain⟨rfl,hw⟩:=hk
    exact⟨[.int k' n],.int hu hw,by simp[vrl,vr],(Nat.eq_of_beq_eq_true hp).symm,hB.one _⟩
   ·cases h
  ·rename_i hu;rw[hu] at hp;cases hp
  ·rename_i s hu
   rw[hu] at hp
   split at h
   ·rename_i hk
    have hxe:=Option.some.inj h
    subst hxe
    have hm:s.size≤m:=Nat.le_trans (by have:=hB.str s.data.toList;rwa [Array.length_toList] at this) hx
    exact⟨[.str s],.str hu hk hm,by simp[vrl,vr],(Nat.eq_of_beq_eq_true hp).symm,hB.one _⟩
   ·cases h
  ·rename_i hu;rw[hu] at hp;cases hp
  ·rename_i hu;rw[hu] at hp;cases hp
  ·rename_i e hu
   rw[hu] at hp
   simp only[Bool.and_eq_true] at hp
   exact⟨[.nils],.nils hu,by simp[vrl,vr],(Nat.eq_of_beq_eq_true hp.1.2).symm,hB.one _⟩
  ·rename_i e a len cap hu
   rw[hu] at hp
   simp only[Bool.and_eq_true] at hp
   obtain⟨⟨he,hz⟩,hpos⟩:=hp
   have hz:ZmI P t=1:=Nat.eq_of_beq_eq_true hz
   have hpos:0 < ZmI P e:=by simpa[Nat.blt_eq] using hpos
   have he:e∈S:=by simpa using he
   simp only at h
   split at h
   ·rename_i hb
    obtain⟨hb1,hb2,hb3⟩:=hb
    cases h1:((List.range len).mapM fun i=> (w.cells? base (a.add (i * P.cellsOf e)) (P.cellsOf e)).bind (DataW.trod enc P w base (fun _=> true) held fuel e)) with
    |none=> rw[h1] at h;cases h
    |some xs=>
     rw[h1] at h
     simp only[Option.bind_some,if_true] at h
     cases h2:((List.range (cap - len)).mapM fun j=> (w.cells? base (a.add ((len+j) * P.cellsOf e)) (P.cellsOf e)).bind (DataW.trod enc P w base (fun _=> true) held fuel e)) with
     |none=> rw[h2] at h;cases h
     |some ys=>
     rw[h2] at h
     have hxe:=Option.some.inj h
     subst hxe
     have hxs:∀x∈xs,B x.1≤m:=fun x hx'=> Nat.le_trans (hB.el _ _ _ (Or.inl (List.mem_map_of_mem hx'))) hx
     have hys:∀x∈ys,B x.1≤m:=fun x hx'=> Nat.le_trans (hB.el _ _ _ (Or.inr (List.mem_map_of_mem hx'))) hx
     have hlm:len≤m:=by
      have h5:=ZXk h1
      rw[List.length_range] at h5
      have:=hB.len (xs.map (·.1)) (ys.map (·.1))
      rw[List.length_map,h5] at this
      exact Nat.le_trans this hx
     rw[List.range_eq_range'] at h1
     obtain⟨vs,t1,l1,s1,r1,q1⟩:=zyT (B:=B) (m:=m) (fun cs x hx hb=> by obtain⟨vs,a1,a2,_,a3⟩:=ih e he cs x hx hb;exact⟨vs,a1,a2,a3⟩) hB len 0 xs h1 hxs
     rw[Nat.zero_mul,Nat.add_zero] at r1
     cases hcap:cap with
     |zero=>
      have:len=0:=by omega
      subst this
      exact⟨[.ze],.ze hu,by simp[vrl,vr],hz.symm,hB.one _⟩
     |succ c=>
      have hsp:a.spot=none:=by
       rcases Nat.eq_zero_or_pos len with h0|h0
       ·subst h0
        simp only[Nat.zero_add,Nat.sub_zero] at h2
        rw[List.range_eq_range'] at h2
        obtain⟨_,_,_,s2,_⟩:=zyT (B:=B) (m:=m) (fun cs x hx hb=> by obtain⟨vs,a1,a2,_,a3⟩:=ih e he cs x hx hb;exact⟨vs,a1,a2,a3⟩) hB cap 0 ys h2 hys
        rcases s2 with h4|h4|h4|h4
        ·omega
        ·exact absurd rfl h4
        ·omega
        ·exact h4
       ·rcases s1 with h4|h4|h4|h4
        ·omega
        ·exact absurd rfl h4
        ·omega
        ·exact h4
      refine⟨[.vs vs len (ZmI P e) .lock],.vs hu (by omega) hlm t1,?_,hz.symm,by have:=hB.sl (xs.map (·.1)) (ys.map (·.1));simp only[V.rks,V.rk];omega⟩
      simp only[vrl,vr]
      refine⟨_,[],rfl,⟨a.block,a.off,c+1,?_,by omega,l1,r1,trivial⟩,rfl⟩
      cases a
      simp only at hsp
      rw[hsp]
   ·cases h
  ·rename_i cs _ cs2 fs hu
   rw[hu] at hp
   simp only[Bool.and_eq_true,List.all_eq_true] at hp
   obtain⟨hf,htl⟩:=hp
   split at h
   ·rename_i hlen
    have hlen:cs.length=ZmI P t:=hlen
    cases h1:(fs.toList.mapM fun f=> DataW.trod enc P w base (fun _=> true) held fuel f.type ((cs.drop f.offset).take (P.cellsOf f.type))) with
    |none=> rw[h1] at h;cases h
    |some xs=>
     rw[←hlen] at htl
     rw[h1] at h
     have hxe:=Option.some.inj h
     subst hxe
     obtain⟨vs,t1,r1,l1,q1⟩:=zDR (B:=B) (m:=m) ih hB fs.toList 0 xs (fun f hf'=> by simpa using hf f hf') htl h1 fun x hx'=> Nat.le_trans (hB.pt _ _ (List.mem_map_of_mem hx')) hx
     exact⟨vs,.strct hu t1,by simpa using r1,by rw[l1,hlen];omega,Nat.le_trans q1 (hB.ag _)⟩
   ·cases h
  ·rename_i cs _ cs2 n e hu
   rw[hu] at hp
   simp only[Bool.and_eq_true] at hp
   obtain⟨he,hz⟩:=hp
   have he:e∈S:=by simpa using he
   have hz:ZmI P t=n * ZmI P e:=Nat.eq_of_beq_eq_true hz
   split at h
   ·rename_i hlen
    have hlen:cs.length=ZmI P t:=hlen
    cases h1:((List.range n).mapM fun i=> DataW.trod enc P w base (fun _=> true) held fuel e ((cs.drop (i * P.cellsOf e)).take (P.cellsOf e))) with
    |none=> rw[h1] at h;cases h
    |some xs=>
     rw[h1] at h
     have hxe:=Option.some.inj h
     subst hxe
     rw[List.range_eq_range'] at h1
     obtain⟨vs,t1,r1,l1,q1⟩:=zOg (B:=B) (m:=m) (ih e he) hB n 0 xs (by rw[hlen,hz,Nat.zero_add]) h1 fun x hx'=> Nat.le_trans (hB.pt _ _ (List.mem_map_of_mem hx')) hx
     exact⟨vs,.arr hu t1,by simpa using r1,by rw[l1,hz],Nat.le_trans q1 (hB.ag _)⟩
   ·cases h
  all_goals first
   |(rename_i hu _;rw[hu] at hp;cases hp;done)
   |(rename_i hu;rw[hu] at hp;cases hp;done)
   |cases h
   |skip
end
section
variable (P:Program) (M:Nat)
def ZPR {α:Type} (f:α→Option (List K)):List α→Option (List K)
 |[]=> some []
 |x::xs=> match f x,ZPR f xs with
  |some a,some b=> some (a++b)
  |_,_=> none
def flatK:Nat→TypeId→Option (List K)
 |0,_=> none
 |d+1,t=> match P.underlying t with
  |some .bool=> some [.bool]
  |some (.int k)=> some [.int k]
  |some .string=> some [.str M]
  |some (.slice e)=> some [.sl e false M]
  |some (.struct fs)=> ZPR (fun f=> flatK d f.type) fs.toList
  |_=> none
def ZOT:List K→List K→Bool
 |[],[]=> true
 |a::l,b::r=> K.beq a b && ZOT l r
 |_,_=> false
theorem ZU9:∀{l r:List K},ZOT l r=true→l=r
 |[],[],_=> rfl
 |a::l,b::r,h=> by
  have h:(K.beq a b && ZOT l r)=true:=h
  rw[Bool.and_eq_true] at h
  rw[K.beq_eq h.1,ZU9 h.2]
 |[],_::_,h=> by cases h
 |_::_,[],h=> by cases h
def ZPp (KD:TypeId→Bool→List K) (S:List TypeId):Bool:=S.all fun t=> match P.underlying t with
 |some (.slice e)=> (match flatK P M 9 e with|some l=> ZOT l (KD e false)|none=> false) && Nat.beq (KD e false).length (ZmI P e)
 |_=> true
variable {P} {M:Nat} {KD:TypeId→Bool→List K} {S:List TypeId}
theorem Z1o (hK:ZPp P M KD S=true) {t e:TypeId} (ht:t∈S) (hu:P.underlying t=some (.slice e)):flatK P M 9 e=some (KD e false)∧(KD e false).length=ZmI P e:=by
 have h:=List.all_eq_true.1 hK t ht
 rw[hu] at h
 have h:((match flatK P M 9 e with|some l=> ZOT l (KD e false)|none=> false) && Nat.beq (KD e false).length (ZmI P e))=true:=h
 rw[Bool.and_eq_true] at h
 refine⟨?_,Nat.eq_of_beq_eq_true h.2⟩
 have h1:=h.1
 split at h1
 ·rename_i l hl
  rw[hl,ZU9 h1]
 ·cases h1
theorem TKs.append {a b:List K} {x y:List V} (h:TKs P KD a x) (h':TKs P KD b y):TKs P KD (a++b) (x++y):=by
 induction a generalizing x with
 |nil=> cases h;exact h'
 |cons k a ih=> cases h with|cons h1 h2=> exact .cons h1 (ih h2)
mutual
theorem ZRX:∀{t:TypeId} {cells:List V},Ty P M t cells→V.pures cells=true
 |t,_,.bool h=> rfl
 |t,_,.int h hn=> rfl
 |t,_,.str h hs hm=> rfl
 |t,_,.nils h=> rfl
 |t,_,.ze h=> rfl
 |t,_,.vs h hn hm he=> rfl
 |t,_,.strct h hf=> ZZh hf
 |t,_,.arr h he=> ZUQ he
theorem ZUQ:∀{e:TypeId} {n:Nat} {cells:List V},TyE P M e n cells→V.pures cells=true
 |_,_,_,.nil=> rfl
 |_,_,_,.cons h ht=> by rw[ZLC,ZRX h,ZUQ ht];rfl
theorem ZZh:∀{fs:List Field} {cells:List V},TyF P M fs cells→V.pures cells=true
 |_,_,.nil=> rfl
 |_,_,.cons h ht=> by rw[ZLC,ZRX h,ZZh ht];rfl
end
mutual
theorem ZRY (hS:ZHI P S=true) (hK:ZPp P M KD S=true):∀{t:TypeId} {cells:List V},Ty P M t cells→t∈S→∀(d:Nat) (ks:List K),flatK P M d t=some ks→TKs P KD ks cells
 |t,_,.bool h,_,0,ks,hf=> by cases hf
 |t,_,.bool h,_,d+1,ks,hf=> by unfold flatK at hf;rw[h] at hf;cases hf;exact .cons .bool .nil
 |t,_,.int h hn,_,0,ks,hf=> by cases hf
 |t,_,.int h hn,_,d+1,ks,hf=> by unfold flatK at hf;rw[h] at hf;cases hf;exact .cons (.int hn) .nil
 |t,_,.str h hs hm,_,0,ks,hf=> by cases hf
 |t,_,.str h hs hm,_,d+1,ks,hf=> by unfold flatK at hf;rw[h] at hf;cases hf;exact .cons (.str hs hm) .nil
 |t,_,.nils h,_,0,ks,hf=> by cases hf
 |t,_,.nils h,_,d+1,ks,hf=> by unfold flatK at hf;rw[h] at hf;cases hf;exact .cons .nils .nil
 |t,_,.ze h,_,0,ks,hf=> by cases hf
 |t,_,.ze h,_,d+1,ks,hf=> by unfold flatK at hf;rw[h] at hf;cases hf;exact .cons .ze .nil
 |t,_,.vs (e:=e) h hn hm he,ht,0,ks,hf=> by cases hf
 |t,_,.vs (e:=e) h hn hm he,ht,d+1,ks,hf=> by
  unfold flatK at hf
  rw[h] at hf
  cases hf
  have hp:=zXI hS ht
  rw[h] at hp
  simp only[Bool.and_eq_true] at hp
  have hes:e∈S:=by simpa using hp.1.1
  have hk:=Z1o hK ht h
  exact .cons (.vs hk.2 hn hm (ZUQ he) (ZZg hS hK he hes hk.1)) .nil
 |t,_,.strct (fs:=fs) h hf',ht,0,ks,hf=> by cases hf
 |t,_,.strct (fs:=fs) h hf',ht,d+1,ks,hf=> by
  unfold flatK at hf
  rw[h] at hf
  have hp:=zXI hS ht
  rw[h] at hp
  simp only[Bool.and_eq_true,List.all_eq_true] at hp
  exact ZZi hS hK hf' (fun f hff=> by simpa using hp.1 f hff) d ks hf
 |t,_,.arr h _,_,0,ks,hf=> by cases hf
 |t,_,.arr h _,_,d+1,ks,hf=> by unfold flatK at hf;rw[h] at hf;cases hf
theorem ZZg (hS:ZHI P S=true) (hK:ZPp P M KD S=true):∀{e:TypeId} {n:Nat} {cells:List V},TyE P M e n cells→e∈S→flatK P M 9 e=some (KD e false)→TKn P KD (KD e false) n cells
 |_,_,_,.nil,_,_=> .nil
 |e,_,_,.cons h ht,he,hf=> .cons (ZRY hS hK h he 9 _ hf) (ZZg hS hK ht he hf)
theorem ZZi (hS:ZHI P S=true) (hK:ZPp P M KD S=true):∀{fs:List Field} {cells:List V},TyF P M fs cells→(∀f∈fs,f.type∈S)→∀(d:Nat) (ks:List K),ZPR (fun f:Field=> flatK P M d f.type) fs=some ks→TKs P KD ks cells
 |_,_,.nil,_,d,ks,hf=> by cases hf;exact .nil
 |_,_,.cons (f:=f) (fs:=fs) h ht,hm,d,ks,hf=> by
  unfold ZPR at hf
  split at hf
  ·rename_i a b ha hb
   cases hf
   exact(ZRY hS hK h (hm f (List.mem_cons_self ..)) d a ha).append (ZZi hS hK ht (fun g hg=> hm g (List.mem_cons_of_mem _ hg)) d b hb)
  ·cases hf
end
end
end
end
end Go.Ae
end
