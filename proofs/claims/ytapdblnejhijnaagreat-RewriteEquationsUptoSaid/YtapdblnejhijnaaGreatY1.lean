/- Symbolic runs: values, states, operations. -/
import Derived.Test.YtapdblnejhijnaaGreatA8
import GoSem.ClaimData
set_option linter.all false
noncomputable section
namespace Go.Ae
section
section
inductive K where
 |bool
 |int (k:IntKind)
 |idx
 |str (mx:Nat)
 |sl (e:TypeId) (rf:Bool) (mx:Nat)
def K.beq:K→K→Bool
 |.bool,.bool|.idx,.idx=> true
 |.str n,.str m=> Nat.beq n m
 |.int a,.int b=> decide (a=b)
 |.sl e r n,.sl e' r' m=> Nat.beq e e' && (r==r') && Nat.beq n m
 |_,_=> false
theorem K.beq_eq {a b:K} (h:a.beq b=true):a=b:=by
 cases a <;> cases b <;> simp[K.beq] at h <;> first|rfl|(subst h;rfl)|skip
 obtain⟨⟨rfl,rfl⟩,rfl⟩:=h;rfl
variable (P:Program) (KD:TypeId→Bool→List K)
mutual
inductive TK:K→V→Prop
 |bool {b:Bool}:TK .bool (.bool b)
 |int {k:IntKind} {n:Int} (h:(Lit.int k n).wf=true):TK (.int k) (.int k n)
 |idx {n:Nat} (h:n < 9223372036854775808):TK .idx (.int .i64 n)
 |str {s:ByteArray} {mx:Nat} (h:s.size≤maxLen) (hm:s.size≤mx):TK (.str mx) (.str s)
 |nils {e:TypeId} {r:Bool} {mx:Nat}:TK (.sl e r mx) .nils
 |ze {e:TypeId} {r:Bool} {mx:Nat}:TK (.sl e r mx) .ze
 |vs {e:TypeId} {r:Bool} {cells:List V} {n mx:Nat} {o:Own} (hz:(KD e r).length=ZmI P e) (hn:n≤maxLen) (hm:n≤mx) (hp:V.pures cells=true) (h:TKn (KD e r) n cells):TK (.sl e r mx) (.vs cells n (ZmI P e) o)
inductive TKn:List K→Nat→List V→Prop
 |nil {ks:List K}:TKn ks 0 []
 |cons {ks:List K} {n:Nat} {a b:List V} (h:TKs ks a) (ht:TKn ks n b):TKn ks (n+1) (a++b)
inductive TKs:List K→List V→Prop
 |nil:TKs [] []
 |cons {k:K} {ks:List K} {v:V} {vs:List V} (h:TK k v) (ht:TKs ks vs):TKs (k::ks) (v::vs)
end
mutual
def V.rk:V→Nat
 |.vs cs _ _ _=> V.rks cs+1
 |_=> 1
def V.rks:List V→Nat
 |[]=> 0
 |v::l=> V.rk v+V.rks l
end
theorem ZMy:∀(a b:List V),V.rks (a++b)=V.rks a+V.rks b
 |[],b=> by simp[V.rks]
 |v::a,b=> by simp only[List.cons_append,V.rks];rw[ZMy a b];omega
theorem ZYf:∀(n:Nat) (a:List V),V.rks (a.drop n)≤V.rks a
 |0,a=> by simp
 |n+1,[]=> by simp
 |n+1,v::a=> by
  have:=ZYf n a
  simp only[List.drop_succ_cons,V.rks];omega
theorem ZRG {v:V}:∀{l:List V},v∈l→V.rk v≤V.rks l
 |[],h=> by cases h
 |w::l,h=> by
  rcases List.mem_cons.1 h with rfl|h
  ·simp only[V.rks];omega
  ·have:=ZRG h;simp only[V.rks];omega
theorem Z2m (n:Nat) (a:List V):V.rks (a.take n)≤V.rks a:=by
 have:=ZMy (a.take n) (a.drop n)
 rw[List.take_append_drop] at this
 omega
variable {P KD}
theorem TKs.len {ks:List K} {vs:List V} (h:TKs P KD ks vs):vs.length=ks.length:=by
 induction ks generalizing vs with
 |nil=> cases h;rfl
 |cons k ks ih=> cases h with|cons _ ht=> rw[List.length_cons,List.length_cons,ih ht]
theorem TKn.elem {ks:List K}:∀{n:Nat} {cells:List V} {i:Nat},TKn P KD ks n cells→i < n→∃a b,cells.drop (i * ks.length)=a++b∧TKs P KD ks a∧V.rks a≤V.rks cells
 |0,_,_,_,h=> by omega
 |n+1,_,0,.cons (a:=a) (b:=b) h _,_=> ⟨a,b,by simp,h,by rw[ZMy];omega⟩
 |n+1,_,i+1,.cons (a:=a) (b:=b) h ht,hi=> by
  obtain⟨a',b',h1,h2,h3⟩:=TKn.elem (i:=i) ht (by omega)
  refine⟨a',b',?_,h2,by rw[ZMy];omega⟩
  rw[show(i+1) * ks.length=a.length+i * ks.length by rw[h.len,Nat.succ_mul];omega,←List.drop_drop,List.drop_left,h1]
theorem TKn.part {ks:List K}:∀{n:Nat} {cells:List V} {l m:Nat},TKn P KD ks n cells→l+m≤n→TKn P KD ks m ((cells.drop (l * ks.length)).take (m * ks.length))
 |n,cells,l,0,_,_=> by rw[Nat.zero_mul,List.take_zero];exact .nil
 |n,cells,0,m+1,h,hl=> by
  cases h with
  |nil=> omega
  |cons h ht=>
   rename_i n a b
   have:=TKn.part (l:=0) (m:=m) ht (by omega)
   rw[Nat.zero_mul,List.drop_zero] at this⊢
   have e0:(m+1) * ks.length=ks.length+m * ks.length:=by rw[Nat.succ_mul,Nat.add_comm]
   have e:ks.length+m * ks.length - ks.length=m * ks.length:=by omega
   rw[e0,List.take_append,h.len,e,List.take_of_length_le (by rw[h.len];omega)]
   exact .cons h this
 |n,cells,l+1,m+1,h,hl=> by
  cases h with
  |nil=> omega
  |cons h ht=>
   rename_i n a b
   have:=TKn.part (l:=l) (m:=m+1) ht (by omega)
   rw[show(l+1) * ks.length=a.length+l * ks.length by rw[h.len,Nat.succ_mul];omega,←List.drop_drop,List.drop_left]
   exact this
theorem ZTP (v:V):V.rk (V.shut v)=V.rk v:=by
 cases v with
 |vs cs n sz o=> cases o <;> rfl
 |_=> rfl
theorem TK.shut {k:K} {v:V} (h:TK P KD k v):TK P KD k (V.shut v)∧V.pure (V.shut v)=true:=by
 cases h with
 |bool=> exact⟨.bool,rfl⟩
 |int h=> exact⟨.int h,rfl⟩
 |idx h=> exact⟨.idx h,rfl⟩
 |str h hm=> exact⟨.str h hm,rfl⟩
 |nils=> exact⟨.nils,rfl⟩
 |ze=> exact⟨.ze,rfl⟩
 |vs hz hn hm hp h=>
  rename_i e r cells n mx o
  cases o <;> exact⟨.vs hz hn hm hp h,rfl⟩
theorem TKs.seals {ks:List K} {vs:List V} (h:TKs P KD ks vs):TKs P KD ks (V.seals vs)∧V.pures (V.seals vs)=true:=by
 induction ks generalizing vs with
 |nil=> cases h;exact⟨.nil,rfl⟩
 |cons k ks ih=>
  cases h with
  |cons h ht=>
   obtain⟨a,b⟩:=h.shut
   obtain⟨c,d⟩:=ih ht
   refine⟨.cons a c,?_⟩
   show(V.pure (V.shut _) && V.pures (V.seals _))=true
   rw[b,d];rfl
def V.lenN:V→Nat
 |.vs _ n _ _=> n
 |.str s=> s.size
 |_=> 0
def V.intN:V→Int
 |.int _ n=> n
 |_=> 0
theorem TK.one {k:K} {v:V} (h:TK P KD k v):v.one=true∧v.cells=[v]:=by
 cases h <;> exact⟨rfl,rfl⟩
theorem TKs.ones {ks:List K} {vs:List V} (h:TKs P KD ks vs):V.ones vs=true:=by
 induction ks generalizing vs with
 |nil=> cases h;rfl
 |cons k ks ih=>
  cases h with
  |cons h ht=> show(V.one _ && V.ones _)=true;rw[h.one.1,ih ht];rfl
theorem TK.lenN_le {k:K} {v:V} (h:TK P KD k v):v.lenN≤maxLen:=by
 cases h <;> simp only[V.lenN] <;> first|assumption|exact Nat.zero_le _
theorem ZLC:∀(a b:List V),V.pures (a++b)=(V.pures a && V.pures b)
 |[],b=> rfl
 |v::a,b=> by
  show(V.pure v && V.pures (a++b))=((V.pure v && V.pures a) && V.pures b)
  rw[ZLC a b,Bool.and_assoc]
theorem ZX5 (n:Nat) (a:List V) (h:V.pures a=true):V.pures (a.drop n)=true:=by
 have:=ZLC (a.take n) (a.drop n)
 rw[List.take_append_drop,h] at this
 exact(Bool.and_eq_true _ _ ▸ this.symm).2
theorem Z18 (n:Nat) (a:List V) (h:V.pures a=true):V.pures (a.take n)=true:=by
 have:=ZLC (a.take n) (a.drop n)
 rw[List.take_append_drop,h] at this
 exact(Bool.and_eq_true _ _ ▸ this.symm).1
theorem TK.shut_pure {k:K} {v:V} (h:TK P KD k v) (hp:V.pure v=true):V.shut v=v:=by
 cases h <;> first|rfl|skip
 rename_i o _ _ _ _ _
 cases o <;> first|rfl|cases hp
theorem TKs.seals_pure {ks:List K} {vs:List V} (h:TKs P KD ks vs) (hp:V.pures vs=true):V.seals vs=vs:=by
 induction ks generalizing vs with
 |nil=> cases h;rfl
 |cons k ks ih=>
  cases h with
  |cons h ht=>
   rename_i v vs
   have hp:(V.pure v && V.pures vs)=true:=hp
   rw[Bool.and_eq_true] at hp
   show V.shut v::V.seals vs=_
   rw[h.shut_pure hp.1,ih ht hp.2]
theorem TK.rk_pos {k:K} {v:V} (_:TK P KD k v):1≤V.rk v:=by
 cases v <;> simp only[V.rk] <;> omega
theorem rk_pos (v:V):1≤V.rk v:=by
 cases v <;> simp only[V.rk] <;> omega
theorem ZYg:∀l:List V,l.length≤V.rks l
 |[]=> Nat.le_refl _
 |v::l=> by
  have:=ZYg l
  have:=rk_pos v
  simp only[V.rks,List.length_cons];omega
theorem TKn.len {ks:List K}:∀{n:Nat} {cells:List V},TKn P KD ks n cells→cells.length=n * ks.length
 |0,_,.nil=> by simp
 |n+1,_,.cons h ht=> by rw[List.length_append,h.len,ht.len,Nat.succ_mul,Nat.add_comm]
theorem ZXT:∀(a b:List V),V.ones (a++b)=(V.ones a && V.ones b)
 |[],b=> rfl
 |v::a,b=> by
  show(V.one v && V.ones (a++b))=((V.one v && V.ones a) && V.ones b)
  rw[ZXT a b,Bool.and_assoc]
theorem TKn.ones {ks:List K}:∀{n:Nat} {cells:List V},TKn P KD ks n cells→V.ones cells=true
 |0,_,.nil=> rfl
 |n+1,_,.cons h ht=> by rw[ZXT,h.ones,ht.ones];rfl
theorem TKn.append {ks:List K}:∀{n k:Nat} {x y:List V},TKn P KD ks n x→TKn P KD ks k y→TKn P KD ks (n+k) (x++y)
 |0,k,_,y,.nil,h'=> by rw[Nat.zero_add];exact h'
 |n+1,k,_,y,.cons (a:=a) (b:=b) h ht,h'=> by
  rw[List.append_assoc,show n+1+k=n+k+1 by omega]
  exact .cons h (TKn.append ht h')
theorem TKn.seals_pure {ks:List K}:∀{n:Nat} {cells:List V},TKn P KD ks n cells→V.pures cells=true→V.seals cells=cells
 |0,_,.nil,_=> rfl
 |n+1,_,.cons (a:=a) (b:=b) h ht,hp=> by
  rw[ZLC,Bool.and_eq_true] at hp
  have hs:∀(x y:List V),V.seals (x++y)=V.seals x++V.seals y:=by
   intro x y
   induction x with
   |nil=> rfl
   |cons v x ih=> show V.shut v::V.seals (x++y)=_;rw[ih];rfl
  rw[hs,h.seals_pure hp.1,TKn.seals_pure ht hp.2]
end
section
inductive A where
 |k (v:V)
 |s (x:Nat)
 |len (x:Nat)
 |agg (l:List A)
 |tup (l:List A)
 |loc (b off:Nat)
 |ip (l:List A) (x:Nat)
 |lit (l:List A) (n z:Nat)
 |fn (f:Nat) (l l':List A)
mutual
def A.den (ρ:Nat→V) (m:Nat→Nat):A→V
 |.k v=> v
 |.s x=> ρ x
 |.len x=> .int .i64 (V.lenN (ρ x))
 |.agg l=> .agg (A.dens ρ m l)
 |.tup l=> .tup (A.dens ρ m l)
 |.loc b off=> .ptr (m b) off
 |.ip l x=> .iptr (A.dens ρ m l++(ρ x).cells)
 |.lit l n z=> .vs (V.seals (A.dens ρ m l)) n z .tight
 |.fn f l l'=> .fn (.func f) (A.dens ρ m l) (A.dens ρ m l')
def A.dens (ρ:Nat→V) (m:Nat→Nat):List A→List V
 |[]=> []
 |x::l=> A.den ρ m x::A.dens ρ m l
end
mutual
def A.bel (n b:Nat):A→Bool
 |.k _=> true
 |.s x=> Nat.blt x n
 |.len x=> Nat.blt x n
 |.agg l=> A.bels n b l
 |.tup l=> A.bels n b l
 |.loc c _=> Nat.blt c b
 |.ip l x=> Nat.blt x n && A.bels n b l
 |.lit l _ _=> A.bels n b l
 |.fn _ l l'=> A.bels n b l && A.bels n b l'
def A.bels (n b:Nat):List A→Bool
 |[]=> true
 |x::l=> A.bel n b x && A.bels n b l
end
section
variable {ρ ρ':Nat→V} {m m':Nat→Nat} {n b n' b':Nat}
theorem ZGM {a b:Nat} (h:Nat.blt a b=true):a < b:=by rwa [Nat.blt_eq] at h
theorem ZKy {a b:Nat} (h:a < b):Nat.blt a b=true:=by rwa [Nat.blt_eq]
mutual
theorem A.den_congr (hr:∀y,y < n→ρ' y=ρ y) (hm:∀c,c < b→m' c=m c):∀x:A,x.bel n b=true→x.den ρ' m'=x.den ρ m
 |.k v,_=> rfl
 |.s x,h=> hr x (ZGM h)
 |.len x,h=> by show V.int .i64 (V.lenN (ρ' x))=_;rw[hr x (ZGM h)];rfl
 |.agg l,h=> congrArg V.agg (A.dens_congr hr hm l h)
 |.tup l,h=> congrArg V.tup (A.dens_congr hr hm l h)
 |.loc c o,h=> by show V.ptr (m' c) o=_;rw[hm c (ZGM h)];rfl
 |.ip l x,h=> by
  have h:(Nat.blt x n && A.bels n b l)=true:=h
  rw[Bool.and_eq_true] at h
  show V.iptr (A.dens ρ' m' l++(ρ' x).cells)=_
  rw[A.dens_congr hr hm l h.2,hr x (ZGM h.1)];rfl
 |.lit l kk z,h=> by show V.vs (V.seals (A.dens ρ' m' l)) kk z .tight=_;rw[A.dens_congr hr hm l h];rfl
 |.fn f l l',h=> by
  have h:(A.bels n b l && A.bels n b l')=true:=h
  rw[Bool.and_eq_true] at h
  show V.fn (.func f) (A.dens ρ' m' l) (A.dens ρ' m' l')=_
  rw[A.dens_congr hr hm l h.1,A.dens_congr hr hm l' h.2];rfl
theorem A.dens_congr (hr:∀y,y < n→ρ' y=ρ y) (hm:∀c,c < b→m' c=m c):∀l:List A,A.bels n b l=true→A.dens ρ' m' l=A.dens ρ m l
 |[],_=> rfl
 |x::l,h=> by
  have h:(x.bel n b && A.bels n b l)=true:=h
  rw[Bool.and_eq_true] at h
  show A.den ρ' m' x::A.dens ρ' m' l=_
  rw[A.den_congr hr hm x h.1,A.dens_congr hr hm l h.2];rfl
end
mutual
theorem A.bel_le (hn:n≤n') (hb:b≤b'):∀x:A,x.bel n b=true→x.bel n' b'=true
 |.k v,_=> rfl
 |.s x,h=> ZKy (Nat.lt_of_lt_of_le (ZGM h) hn)
 |.len x,h=> ZKy (Nat.lt_of_lt_of_le (ZGM h) hn)
 |.agg l,h=> A.bels_le hn hb l h
 |.tup l,h=> A.bels_le hn hb l h
 |.loc c o,h=> ZKy (Nat.lt_of_lt_of_le (ZGM h) hb)
 |.ip l x,h=> by
  have h:(Nat.blt x n && A.bels n b l)=true:=h
  rw[Bool.and_eq_true] at h
  show(Nat.blt x n' && A.bels n' b' l)=true
  rw[Bool.and_eq_true]
  exact⟨ZKy (Nat.lt_of_lt_of_le (ZGM h.1) hn),A.bels_le hn hb l h.2⟩
 |.lit l kk z,h=> A.bels_le hn hb l h
 |.fn f l l',h=> by
  have h:(A.bels n b l && A.bels n b l')=true:=h
  rw[Bool.and_eq_true] at h
  show(A.bels n' b' l && A.bels n' b' l')=true
  rw[Bool.and_eq_true]
  exact⟨A.bels_le hn hb l h.1,A.bels_le hn hb l' h.2⟩
theorem A.bels_le (hn:n≤n') (hb:b≤b'):∀l:List A,A.bels n b l=true→A.bels n' b' l=true
 |[],_=> rfl
 |x::l,h=> by
  have h:(x.bel n b && A.bels n b l)=true:=h
  rw[Bool.and_eq_true] at h
  show(x.bel n' b' && A.bels n' b' l)=true
  rw[Bool.and_eq_true]
  exact⟨A.bel_le hn hb x h.1,A.bels_le hn hb l h.2⟩
end
theorem ZLb:∀l:List A,(A.dens ρ m l).length=l.length
 |[]=> rfl
 |x::l=> by show(A.den ρ m x::A.dens ρ m l).length=_;rw[List.length_cons,ZLb l];rfl
theorem ZLa:∀l l':List A,A.dens ρ m (l++l')=A.dens ρ m l++A.dens ρ m l'
 |[],l'=> rfl
 |x::l,l'=> by show A.den ρ m x::A.dens ρ m (l++l')=_;rw[ZLa l l'];rfl
theorem ZMF:∀(k:Nat) (l:List A),A.dens ρ m (l.drop k)=(A.dens ρ m l).drop k
 |0,l=> rfl
 |k+1,[]=> rfl
 |k+1,x::l=> ZMF k l
theorem ZSo:∀(k:Nat) (l:List A),A.dens ρ m (l.take k)=(A.dens ρ m l).take k
 |0,l=> rfl
 |k+1,[]=> rfl
 |k+1,x::l=> by show A.den ρ m x::A.dens ρ m (l.take k)=_;rw[ZSo k l];rfl
theorem ZLp:∀(k:Nat) (l:List A),(A.dens ρ m l)[k]?=(l[k]?).map (A.den ρ m)
 |k,[]=> by simp[A.dens]
 |0,x::l=> rfl
 |k+1,x::l=> by
  show(A.den ρ m x::A.dens ρ m l)[k+1]?=_
  rw[List.getElem?_cons_succ,List.getElem?_cons_succ,ZLp k l]
end
def look {α:Type}:List (Nat×α)→Nat→Option α
 |[],_=> none
 |(y,v)::l,x=> cond (Nat.beq x y) (some v) (look l x)
theorem ZMO {α:Type} {y x:Nat} {v:α} {l:List (Nat×α)}:look ((y,v)::l) x=if x=y then some v else look l x:=by
 show cond (Nat.beq x y) _ _=_
 by_cases h:x=y
 ·rw[if_pos h];subst h;rw[Nat.beq_refl];rfl
 ·have:Nat.beq x y=false:=by
   cases hb:Nat.beq x y with
   |false=> rfl
   |true=> exact absurd (Nat.eq_of_beq_eq_true hb) h
  rw[if_neg h,this];rfl
inductive Q where
 |z
 |v (x:Nat)
 |l (x:Nat)
 |r (x:Nat)
 |n (x:Nat)
def Q.val (ρ:Nat→V):Q→Int
 |.z=> 0
 |.v x=> V.intN (ρ x)
 |.l x=> (V.lenN (ρ x):Nat)
 |.r x=> (V.rk (ρ x):Nat)
 |.n x=> -((V.rk (ρ x):Nat):Int)
def Q.bel (n:Nat):Q→Bool
 |.z=> true
 |.v x=> Nat.blt x n
 |.l x=> Nat.blt x n
 |.r x=> Nat.blt x n
 |.n x=> Nat.blt x n
def Q.beq:Q→Q→Bool
 |.z,.z=> true
 |.v x,.v y=> Nat.beq x y
 |.l x,.l y=> Nat.beq x y
 |.r x,.r y=> Nat.beq x y
 |.n x,.n y=> Nat.beq x y
 |_,_=> false
theorem Q.beq_eq {p q:Q} (h:Q.beq p q=true):p=q:=by
 cases p <;> cases q <;> first|rfl|(cases h;done)|(rw[Nat.eq_of_beq_eq_true (show Nat.beq _ _=true from h)])
inductive Fact where
 |c (p q:Q) (k:Int)
 |kb (x:Nat) (b:Bool)
 |imp (x:Nat) (b:Bool) (f:Fact)
 |el (x:Nat) (q:Q) (k:Int) (b n:Nat)
 |rf (x:Nat) (e:TypeId) (q:Q) (k:Int)
 |pr (Q:List V→Prop) (l:List A)
def Fact.bel (n:Nat):Fact→Bool
 |.c p q _=> p.bel n && q.bel n
 |.kb x _=> Nat.blt x n
 |.imp x _ f=> Nat.blt x n && f.bel n
 |.el x q _ b k=> Nat.blt x n && q.bel n && Nat.blt (b+k) n
 |.rf x _ q _=> Nat.blt x n && q.bel n
 |.pr _ l=> A.bels n 0 l
def vals (ρ:Nat→V):Nat→Nat→List V
 |_,0=> []
 |b,k+1=> ρ b::vals ρ (b+1) k
def ZLX:Nat→Nat→List A
 |_,0=> []
 |b,k+1=> .s b::ZLX (b+1) k
theorem ZPZ {ρ:Nat→V} {m:Nat→Nat}:∀(k b:Nat),A.dens ρ m (ZLX b k)=vals ρ b k
 |0,_=> rfl
 |k+1,b=> by show ρ b::A.dens ρ m (ZLX (b+1) k)=_;rw[ZPZ k];rfl
theorem ZSb {n b':Nat}:∀(k b:Nat),b+k≤n→A.bels n b' (ZLX b k)=true
 |0,_,_=> rfl
 |k+1,b,h=> by
  show(Nat.blt b n && A.bels n b' (ZLX (b+1) k))=true
  rw[Bool.and_eq_true]
  exact⟨ZKy (by omega),ZSb k (b+1) (by omega)⟩
theorem ZZn {ρ ρ':Nat→V}:∀(k b:Nat),(∀y,y < b+k→ρ' y=ρ y)→vals ρ' b k=vals ρ b k
 |0,_,_=> rfl
 |k+1,b,h=> by show ρ' b::vals ρ' (b+1) k=_;rw[h b (by omega),ZZn k (b+1) fun y hy=> h y (by omega)];rfl
section
variable (P:Program) (KD:TypeId→Bool→List K)
def Fact.ok (ρ:Nat→V):Fact→Prop
 |.c p q k=> p.val ρ - q.val ρ≤k
 |.kb x b=> ρ x=.bool b
 |.imp x b f=> ρ x=.bool b→f.ok ρ
 |.el x q k b n=> ∃cs len sz o,∃N:Nat,ρ x=.vs cs len sz o∧(N:Int)=q.val ρ+k∧N < len∧cs.drop (N * sz)=vals ρ (b+1) n++(ρ b).cells
 |.rf x e q k=> ∀cs len sz o,ρ x=.vs cs len sz o→∀N:Nat,(N:Int) < q.val ρ+k→N < len→∃a b,cs.drop (N * sz)=a++b∧TKs P KD (KD e true) a
 |.pr Q l=> Q (A.dens ρ (fun _=> 0) l)
theorem Q.val_congr {ρ ρ':Nat→V} {n:Nat} {q:Q} (hq:q.bel n=true) (hr:∀y,y < n→ρ' y=ρ y):q.val ρ'=q.val ρ:=by
 cases q with
 |z=> rfl
 |v x=> show V.intN (ρ' x)=_;rw[hr x (ZGM hq)];rfl
 |l x=> show((V.lenN (ρ' x):Nat):Int)=_;rw[hr x (ZGM hq)];rfl
 |r x=> show((V.rk (ρ' x):Nat):Int)=_;rw[hr x (ZGM hq)];rfl
 |n x=> show -((V.rk (ρ' x):Nat):Int)=_;rw[hr x (ZGM hq)];rfl
theorem Q.bel_le {n n':Nat} (h:n≤n') {q:Q} (hq:q.bel n=true):q.bel n'=true:=by
 cases q <;> first|rfl|exact ZKy (Nat.lt_of_lt_of_le (ZGM hq) h)
theorem Fact.ok_congr {ρ ρ':Nat→V} {n:Nat} (hr:∀y,y < n→ρ' y=ρ y):∀{F:Fact},F.bel n=true→F.ok P KD ρ→F.ok P KD ρ'
 |.c p q k,hb,h=> by
  have hb:(p.bel n && q.bel n)=true:=hb
  rw[Bool.and_eq_true] at hb
  show p.val ρ' - q.val ρ'≤k
  rw[Q.val_congr hb.1 hr,Q.val_congr hb.2 hr];exact h
 |.kb x b,hb,h=> by show ρ' x=_;rw[hr x (ZGM hb)];exact h
 |.imp x b f,hb,h=> by
  have hb:(Nat.blt x n && f.bel n)=true:=hb
  rw[Bool.and_eq_true] at hb
  intro hx
  rw[hr x (ZGM hb.1)] at hx
  exact Fact.ok_congr hr hb.2 (h hx)
 |.el x q k b j,hb,h=> by
  have hb:(Nat.blt x n && q.bel n && Nat.blt (b+j) n)=true:=hb
  rw[Bool.and_eq_true,Bool.and_eq_true] at hb
  obtain⟨cs,len,sz,o,N,h1,h2,h3,h4⟩:=h
  have hlt:=ZGM hb.2
  exact⟨cs,len,sz,o,N,by rw[hr x (ZGM hb.1.1)];exact h1,by rw[Q.val_congr hb.1.2 hr];exact h2,h3,by rw[ZZn j (b+1) fun y hy=> hr y (by omega),hr b (by omega)];exact h4⟩
 |.rf x e q k,hb,h=> by
  have hb:(Nat.blt x n && q.bel n)=true:=hb
  rw[Bool.and_eq_true] at hb
  intro cs len sz o hx N hN hl
  rw[hr x (ZGM hb.1)] at hx
  rw[Q.val_congr hb.2 hr] at hN
  exact h cs len sz o hx N hN hl
 |.pr Q l,hb,h=> by
  show Q (A.dens ρ' (fun _=> 0) l)
  rw[A.dens_congr (b:=0) hr (fun _ _=> rfl) l hb];exact h
theorem Fact.bel_le {n n':Nat} (hn:n≤n'):∀{F:Fact},F.bel n=true→F.bel n'=true
 |.c p q k,hb=> by
  have hb:(p.bel n && q.bel n)=true:=hb
  rw[Bool.and_eq_true] at hb
  show(p.bel n' && q.bel n')=true
  rw[Bool.and_eq_true];exact⟨Q.bel_le hn hb.1,Q.bel_le hn hb.2⟩
 |.kb x b,hb=> ZKy (Nat.lt_of_lt_of_le (ZGM hb) hn)
 |.imp x b f,hb=> by
  have hb:(Nat.blt x n && f.bel n)=true:=hb
  rw[Bool.and_eq_true] at hb
  show(Nat.blt x n' && f.bel n')=true
  rw[Bool.and_eq_true];exact⟨ZKy (Nat.lt_of_lt_of_le (ZGM hb.1) hn),Fact.bel_le hn hb.2⟩
 |.el x q k b j,hb=> by
  have hb:(Nat.blt x n && q.bel n && Nat.blt (b+j) n)=true:=hb
  rw[Bool.and_eq_true,Bool.and_eq_true] at hb
  show(Nat.blt x n' && q.bel n' && Nat.blt (b+j) n')=true
  rw[Bool.and_eq_true,Bool.and_eq_true]
  exact⟨⟨ZKy (Nat.lt_of_lt_of_le (ZGM hb.1.1) hn),Q.bel_le hn hb.1.2⟩,ZKy (Nat.lt_of_lt_of_le (ZGM hb.2) hn)⟩
 |.rf x e q k,hb=> by
  have hb:(Nat.blt x n && q.bel n)=true:=hb
  rw[Bool.and_eq_true] at hb
  show(Nat.blt x n' && q.bel n')=true
  rw[Bool.and_eq_true];exact⟨ZKy (Nat.lt_of_lt_of_le (ZGM hb.1) hn),Q.bel_le hn hb.2⟩
 |.pr _ l,hb=> A.bels_le hn (Nat.le_refl 0) l hb
end
structure SI where
 k:K
 pu:Bool
structure SS where
 regs:List (Nat×A)
 blks:List (Option (List A))
 nx:Nat
 syms:List (Nat×SI)
 fs:List Fact
 ap:List Nat
 st:Nat:=0
def ZCj:V→Option Nat
 |.vs _ _ _ (.tok r _)=> some r
 |_=> none
def ZLg (v:V) (nb:Nat) (g:Nat→Blk):Prop:=v=.nils∨(∃cs n sz,v=.vs cs n sz .tight)∨∃cs n sz r e,v=.vs cs n sz (.tok r e)∧r < nb∧g r=.tok e
section
variable (P:Program) (KD:TypeId→Bool→List K)
def ZCu (v:V) (i:SI):Prop:=TK P KD i.k v∧(i.pu=true→V.pure v=true)
structure Rel (ρ:Nat→V) (m:Nat→Nat) (a:SS) (f:Nat→V) (nb:Nat) (g:Nat→Blk):Prop where
 regs:∀t x,look a.regs t=some x→f t=x.den ρ m∧x.bel a.nx a.blks.length=true
 blks:∀(b:Nat) (l:List A),a.blks[b]?=some (some l)→g (m b)=.row 0 (A.dens ρ m l)∧A.bels a.nx a.blks.length l=true
 inj:∀b c,b < a.blks.length→c < a.blks.length→m b=m c→b=c
 lt:∀b,b < a.blks.length→m b < nb
 syms:∀x i,look a.syms x=some i→x < a.nx∧ZCu P KD (ρ x) i
 fs:∀F∈a.fs,F.bel a.nx=true∧F.ok P KD ρ
 ap:∀x∈a.ap,x < a.nx∧ZLg (ρ x) nb g
 apn:∀x∈a.ap,∀y∈a.ap,x≠y→∀r,ZCj (ρ x)=some r→ZCj (ρ y)≠some r
structure XExt (a:SS) (ρ:Nat→V) (m:Nat→Nat) (ρ':Nat→V) (m':Nat→Nat):Prop where
 r:∀y,y < a.nx→ρ' y=ρ y
 m:∀c,c < a.blks.length→m' c=m c
variable {P KD}
section
variable {ρ ρ':Nat→V} {m m':Nat→Nat} {a:SS} {f:Nat→V} {nb:Nat} {g:Nat→Blk}
theorem XExt.refl:XExt a ρ m ρ m:=⟨fun _ _=> rfl,fun _ _=> rfl⟩
theorem XExt.trans {ρ1 ρ2 ρ3:Nat→V} {m1 m2 m3:Nat→Nat} {a b:SS} (h:XExt a ρ1 m1 ρ2 m2) (h':XExt b ρ2 m2 ρ3 m3) (hn:a.nx≤b.nx) (hb:a.blks.length≤b.blks.length):XExt a ρ1 m1 ρ3 m3:=
 ⟨fun y hy=> (h'.r y (Nat.lt_of_lt_of_le hy hn)).trans (h.r y hy),fun c hc=> (h'.m c (Nat.lt_of_lt_of_le hc hb)).trans (h.m c hc)⟩
theorem Rel.ext (h:Rel P KD ρ m a f nb g) (hr:∀y,y < a.nx→ρ' y=ρ y):Rel P KD ρ' m a f nb g where
 regs t x hx:=⟨by rw[(h.regs t x hx).1,A.den_congr hr (fun _ _=> rfl) x (h.regs t x hx).2],(h.regs t x hx).2⟩
 blks b l hl:=⟨by rw[(h.blks b l hl).1,A.dens_congr hr (fun _ _=> rfl) l (h.blks b l hl).2],(h.blks b l hl).2⟩
 inj:=h.inj
 lt:=h.lt
 syms x i hx:=⟨(h.syms x i hx).1,by rw[hr x (h.syms x i hx).1];exact(h.syms x i hx).2⟩
 fs F hF:=⟨(h.fs F hF).1,Fact.ok_congr P KD hr (h.fs F hF).1 (h.fs F hF).2⟩
 ap x hx:=⟨(h.ap x hx).1,by rw[hr x (h.ap x hx).1];exact(h.ap x hx).2⟩
 apn x hx y hy:=by rw[hr x (h.ap x hx).1,hr y (h.ap y hy).1];exact h.apn x hx y hy
def SS.fresh (a:SS) (i:Option SI):SS:={a with nx:=a.nx+1,syms:=match i with|some i=> (a.nx,i)::a.syms|none=> a.syms}
theorem Rel.fresh (h:Rel P KD ρ m a f nb g) {v:V} {i:Option SI} (hv:∀j,i=some j→ZCu P KD v j):Rel P KD (at1 ρ a.nx v) m (a.fresh i) f nb g:=by
 have h':=h.ext (ρ':=at1 ρ a.nx v) fun y hy=> QF _ _ (by omega)
 exact {
  regs:=fun t x hx=> ⟨(h'.regs t x hx).1,A.bel_le (Nat.le_succ _) (Nat.le_refl _) x (h'.regs t x hx).2⟩
  blks:=fun b l hl=> ⟨(h'.blks b l hl).1,A.bels_le (Nat.le_succ _) (Nat.le_refl _) l (h'.blks b l hl).2⟩
  inj:=h'.inj
  lt:=h'.lt
  syms:=fun x j hx=> by
   cases i with
   |none=> exact⟨Nat.lt_succ_of_lt (h'.syms x j hx).1,(h'.syms x j hx).2⟩
   |some i=>
    have hx:look ((a.nx,i)::a.syms) x=some j:=hx
    rw[ZMO] at hx
    by_cases hxe:x=a.nx
    ·rw[if_pos hxe] at hx
     cases hx
     subst hxe
     exact⟨Nat.lt_succ_self _,by rw[zag];exact hv _ rfl⟩
    ·rw[if_neg hxe] at hx
     exact⟨Nat.lt_succ_of_lt (h'.syms x j hx).1,(h'.syms x j hx).2⟩
  fs:=fun F hF=> ⟨Fact.bel_le (Nat.le_succ _) (h'.fs F hF).1,(h'.fs F hF).2⟩
  ap:=fun x hx=> ⟨Nat.lt_succ_of_lt (h'.ap x hx).1,(h'.ap x hx).2⟩
  apn:=h'.apn}
def SS.know (a:SS) (F:Fact):SS:={a with fs:=F::a.fs}
theorem Rel.know (h:Rel P KD ρ m a f nb g) {F:Fact} (hb:F.bel a.nx=true) (ho:F.ok P KD ρ):Rel P KD ρ m (a.know F) f nb g where
 regs:=h.regs
 blks:=h.blks
 inj:=h.inj
 lt:=h.lt
 syms:=h.syms
 fs G hG:=by
  rcases List.mem_cons.1 hG with rfl|hG
  ·exact⟨hb,ho⟩
  ·exact h.fs G hG
 ap:=h.ap
 apn:=h.apn
def SS.put (a:SS) (t:Nat) (x:A):SS:={a with regs:=(t,x)::a.regs}
theorem Rel.put (h:Rel P KD ρ m a f nb g) {t:Nat} {x:A} (hx:x.bel a.nx a.blks.length=true):Rel P KD ρ m (a.put t x) (at1 f t (x.den ρ m)) nb g where
 regs u y hy:=by
  have hy:look ((t,x)::a.regs) u=some y:=hy
  rw[ZMO] at hy
  by_cases he:u=t
  ·rw[if_pos he] at hy
   cases hy
   subst he
   exact⟨zag _ _ _,hx⟩
  ·rw[if_neg he] at hy
   rw[QF _ _ he]
   exact h.regs u y hy
 blks:=h.blks
 inj:=h.inj
 lt:=h.lt
 syms:=h.syms
 fs:=h.fs
 ap:=h.ap
 apn:=h.apn
theorem ZLg.set {v:V} {r:Nat} {b:Blk} (h:ZLg v nb g) (hr:ZCj v≠some r):ZLg v nb (atB g r b):=by
 rcases h with h|h|⟨cs,n,sz,q,e,h1,h2,h3⟩
 ·exact Or.inl h
 ·exact Or.inr (Or.inl h)
 ·refine Or.inr (Or.inr ⟨cs,n,sz,q,e,h1,h2,?_⟩)
  rw[ZN _ _ (fun hh=> hr (by rw[h1,←hh];rfl))]
  exact h3
theorem ZLg.row {v:V} {r k:Nat} {l:List V} (h:ZLg v nb g) (hr:g r=.row k l):ZCj v≠some r:=by
 intro ht
 rcases h with h|⟨cs,n,sz,h⟩|⟨cs,n,sz,q,e,h1,h2,h3⟩
 ·rw[h] at ht;cases ht
 ·rw[h] at ht;cases ht
 ·rw[h1] at ht
  cases ht
  rw[hr] at h3;cases h3
theorem ZLg.lt {v:V} (h:ZLg v nb g):ZCj v≠some nb:=by
 intro ht
 rcases h with h|⟨cs,n,sz,h⟩|⟨cs,n,sz,q,e,h1,h2,h3⟩
 ·rw[h] at ht;cases ht
 ·rw[h] at ht;cases ht
 ·rw[h1] at ht
  cases ht
  omega
theorem ZLg.le {v:V} {nb':Nat} (h:ZLg v nb g) (hn:nb≤nb'):ZLg v nb' g:=by
 rcases h with h|h|⟨cs,n,sz,q,e,h1,h2,h3⟩
 ·exact Or.inl h
 ·exact Or.inr (Or.inl h)
 ·exact Or.inr (Or.inr ⟨cs,n,sz,q,e,h1,Nat.lt_of_lt_of_le h2 hn,h3⟩)
def SS.setB (a:SS) (b:Nat) (l:List A):SS:={a with blks:=a.blks.set b (some l)}
theorem Rel.setB (h:Rel P KD ρ m a f nb g) {b:Nat} {l:List A} (hb:b < a.blks.length) (hrow:∃k l,g (m b)=.row k l) (hl:A.bels a.nx a.blks.length l=true):Rel P KD ρ m (a.setB b l) f nb (atB g (m b) (.row 0 (A.dens ρ m l))):=by
 have hlen:(a.setB b l).blks.length=a.blks.length:=List.length_set
 obtain⟨k0,l0,hrow⟩:=hrow
 exact {
  regs:=fun t x hx=> by rw[hlen];exact h.regs t x hx
  blks:=fun c l' hc=> by
   rw[hlen]
   have hc:(a.blks.set b (some l))[c]?=some (some l'):=hc
   rw[List.getElem?_set] at hc
   by_cases he:b=c
   ·subst he
    rw[if_pos rfl,if_pos hb] at hc
    cases hc
    exact⟨ZO _ _ _,hl⟩
   ·rw[if_neg he] at hc
    have hcl:c < a.blks.length:=(List.getElem?_eq_some_iff.1 hc).1
    rw[ZN _ _ fun hh=> he (h.inj _ _ hcl hb hh).symm]
    exact h.blks c l' hc
  inj:=by rw[hlen];exact h.inj
  lt:=by rw[hlen];exact h.lt
  syms:=h.syms
  fs:=h.fs
  ap:=fun x hx=> ⟨(h.ap x hx).1,(h.ap x hx).2.set ((h.ap x hx).2.row hrow)⟩
  apn:=h.apn}
def SS.newB (a:SS) (l:Option (List A)):SS:={a with blks:=a.blks++[l]}
theorem Rel.newB (h:Rel P KD ρ m a f nb g) {l:Option (List A)} {b:Blk} (hl:∀l',l=some l'→A.bels a.nx a.blks.length l'=true∧b=.row 0 (A.dens ρ m l')):Rel P KD ρ (at1 m a.blks.length nb) (a.newB l) f (nb+1) (atB g nb b):=by
 have hlen:(a.newB l).blks.length=a.blks.length+1:=by show(a.blks++[l]).length=_;rw[List.length_append];rfl
 have hm:∀c,c < a.blks.length→at1 m a.blks.length nb c=m c:=fun c hc=> QF _ _ (by omega)
 exact {
  regs:=fun t x hx=> by
   rw[hlen]
   obtain⟨h1,h2⟩:=h.regs t x hx
   exact⟨by rw[h1,A.den_congr (fun _ _=> rfl) hm x h2],A.bel_le (Nat.le_refl _) (Nat.le_succ _) x h2⟩
  blks:=fun c l' hc=> by
   rw[hlen]
   have hc:(a.blks++[l])[c]?=some (some l'):=hc
   by_cases he:c < a.blks.length
   ·rw[List.getElem?_append_left he] at hc
    obtain⟨h1,h2⟩:=h.blks c l' hc
    rw[hm c he,ZN _ _ (by have:=h.lt c he;omega),h1,A.dens_congr (fun _ _=> rfl) hm l' h2]
    exact⟨rfl,A.bels_le (Nat.le_refl _) (Nat.le_succ _) l' h2⟩
   ·rw[List.getElem?_append_right (by omega)] at hc
    have hc0:c=a.blks.length:=by
     have:=(List.getElem?_eq_some_iff.1 hc).1
     simp only[List.length_cons,List.length_nil] at this
     omega
    subst hc0
    rw[Nat.sub_self] at hc
    have hc:l=some l':=Option.some.inj hc
    obtain⟨h1,h2⟩:=hl l' hc
    rw[zag,ZO,h2,A.dens_congr (fun _ _=> rfl) hm l' h1]
    exact⟨rfl,A.bels_le (Nat.le_refl _) (Nat.le_succ _) l' h1⟩
  inj:=fun b c hb hc he=> by
   rw[hlen] at hb hc
   by_cases h1:b < a.blks.length
   ·by_cases h2:c < a.blks.length
    ·rw[hm b h1,hm c h2] at he
     exact h.inj b c h1 h2 he
    ·obtain rfl:c=a.blks.length:=by omega
     rw[hm b h1,zag] at he
     have:=h.lt b h1
     omega
   ·obtain rfl:b=a.blks.length:=by omega
    by_cases h2:c < a.blks.length
    ·rw[hm c h2,zag] at he
     have:=h.lt c h2
     omega
    ·omega
  lt:=fun b hb=> by
   rw[hlen] at hb
   by_cases h1:b < a.blks.length
   ·rw[hm b h1];have:=h.lt b h1;omega
   ·obtain rfl:b=a.blks.length:=by omega
    rw[zag];omega
  syms:=h.syms
  fs:=h.fs
  ap:=fun x hx=> ⟨(h.ap x hx).1,((h.ap x hx).2.le (Nat.le_succ _)).set ((h.ap x hx).2.lt)⟩
  apn:=h.apn}
theorem Rel.more (h:Rel P KD ρ m a f nb g) (b:Blk):Rel P KD ρ m a f (nb+1) (atB g nb b) where
 regs:=h.regs
 blks c l hc:=by
  have hcl:c < a.blks.length:=(List.getElem?_eq_some_iff.1 hc).1
  rw[ZN _ _ (by have:=h.lt c hcl;omega)]
  exact h.blks c l hc
 inj:=h.inj
 lt c hc:=by have:=h.lt c hc;omega
 syms:=h.syms
 fs:=h.fs
 ap x hx:=⟨(h.ap x hx).1,((h.ap x hx).2.le (Nat.le_succ _)).set ((h.ap x hx).2.lt)⟩
 apn:=h.apn
end
end
def leI (a b:Int):Bool:=match b - a with
 |.ofNat _=> true
 |.negSucc _=> false
theorem ZLt {a b:Int} (h:leI a b=true):a≤b:=by
 unfold leI at h
 split at h
 ·rename_i n hn
  have h0:(0:Int)≤b - a:=by rw[hn];exact Int.natCast_nonneg n
  omega
 ·cases h
def ZFS (a:SS) (x:Nat):Option K:=match look a.syms x with
 |some i=> some i.k
 |none=> none
def ZMw (a:SS) (x:Nat):Bool:=match look a.syms x with
 |some i=> i.pu
 |none=> false
def ZRs (n:Nat):Nat:=cond (Nat.ble n maxLen) n maxLen
def ZOS (a:SS) (p q:Q) (k:Int):Bool:=
 (Q.beq p q && leI 0 k)||match p,q with
 |.z,.l _=> leI 0 k
 |.z,.r _=> leI 0 k
 |.n _,.z=> leI 0 k
 |.z,.v y=> match ZFS a y with
  |some .idx=> leI 0 k
  |some (.int i)=> leI (-i.min) k
  |_=> false
 |.l x,.z=> match ZFS a x with
  |some (.str n)=> leI (ZRs n) k
  |some (.sl _ _ n)=> leI (ZRs n) k
  |_=> false
 |.v x,.z=> match ZFS a x with
  |some .idx=> leI 9223372036854775807 k
  |some (.int i)=> leI i.max k
  |_=> false
 |_,_=> false
def ZRv (a:SS):Q→Bool
 |.z=> false
 |.l _=> true
 |.r _=> true
 |.n _=> false
 |.v y=> match ZFS a y with
  |some .idx=> true
  |_=> false
def ZX9:Q→Q→Bool
 |.r _,.r _=> true
 |.r _,_=> false
 |.n _,.n _=> true
 |.n _,_=> false
 |_,_=> true
def ZOg (z:Q→Bool) (r:Q→Q→Int→Bool) (p q:Q) (k:Int):List Fact→Bool
 |[]=> false
 |.c p' r' k'::l=> ((Q.beq p' p||(Q.beq p .z && z p' && ZX9 p' q)) && r r' q (k - k'))||ZOg z r p q k l
 |_::l=> ZOg z r p q k l
def ent (a:SS):Nat→Q→Q→Int→Bool
 |0,p,q,k=> ZOS a p q k
 |d+1,p,q,k=> ZOS a p q k||ZOg (ZRv a) (ent a d) p q k a.fs
section
variable {P:Program} {KD:TypeId→Bool→List K}
variable {ρ ρ':Nat→V} {m m':Nat→Nat} {a:SS} {f:Nat→V} {nb:Nat} {g:Nat→Blk}
theorem ZGN (h:Rel P KD ρ m a f nb g) {x:Nat} {k:K} (hk:ZFS a x=some k):TK P KD k (ρ x)∧x < a.nx:=by
 unfold ZFS at hk
 cases hi:look a.syms x with
 |none=> rw[hi] at hk;cases hk
 |some i=>
  rw[hi] at hk
  cases hk
  exact⟨(h.syms x i hi).2.1,(h.syms x i hi).1⟩
theorem ZRA (h:Rel P KD ρ m a f nb g) {x:Nat} (hk:ZMw a x=true):V.pure (ρ x)=true∧x < a.nx:=by
 unfold ZMw at hk
 cases hi:look a.syms x with
 |none=> rw[hi] at hk;cases hk
 |some i=>
  rw[hi] at hk
  exact⟨(h.syms x i hi).2.2 hk,(h.syms x i hi).1⟩
theorem TK.idx_val {v:V} (h:TK P KD .idx v):∃n:Nat,v=.int .i64 n∧n < 9223372036854775808:=by
 cases h with
 |idx h=> exact⟨_,rfl,h⟩
theorem TK.int_val {v:V} {i:IntKind} (h:TK P KD (.int i) v):∃n:Int,v=.int i n∧i.min≤n∧n≤i.max:=by
 cases h with
 |int h=>
  simp only[Lit.wf,Bool.and_eq_true,decide_eq_true_eq] at h
  exact⟨_,rfl,h.1,h.2⟩
theorem ZXp {n s:Nat} (h1:s≤maxLen) (h2:s≤n):s≤ZRs n:=by
 unfold ZRs
 cases Nat.ble n maxLen <;> assumption
theorem ZU7 (h:Rel P KD ρ m a f nb g) {p q:Q} {k:Int} (hb:ZOS a p q k=true):p.val ρ - q.val ρ≤k:=by
 unfold ZOS at hb
 rw[Bool.or_eq_true,Bool.and_eq_true] at hb
 rcases hb with ⟨h1,h2⟩|hb
 ·rw[Q.beq_eq h1]
  have:=ZLt h2
  omega
 ·split at hb
  ·have:=ZLt hb
   simp only[Q.val];omega
  ·have:=ZLt hb
   simp only[Q.val];omega
  ·have:=ZLt hb
   simp only[Q.val];omega
  ·rename_i y
   split at hb
   ·rename_i hk
    have:=ZLt hb
    obtain⟨n,hn, -⟩:=(ZGN h hk).1.idx_val
    simp only[Q.val,hn,V.intN];omega
   ·rename_i i hk
    have:=ZLt hb
    obtain⟨n,hn,h1,h2⟩:=(ZGN h hk).1.int_val
    simp only[Q.val,hn,V.intN];omega
   ·cases hb
  ·rename_i x
   split at hb
   ·rename_i n hk
    have h1:=ZLt hb
    have ht:=(ZGN h hk).1
    generalize hv:ρ x=v at ht
    cases ht with
    |str h3 h4=>
     have:=ZXp h3 h4
     simp only[Q.val,hv,V.lenN];omega
   ·rename_i e r n hk
    have h1:=ZLt hb
    have ht:=(ZGN h hk).1
    generalize hv:ρ x=v at ht
    cases ht with
    |nils=> simp only[Q.val,hv,V.lenN];omega
    |ze=> simp only[Q.val,hv,V.lenN];omega
    |vs hz h3 h4=>
     have:=ZXp h3 h4
     simp only[Q.val,hv,V.lenN];omega
   ·cases hb
  ·rename_i x
   split at hb
   ·rename_i hk
    have:=ZLt hb
    obtain⟨n,hn,h1⟩:=(ZGN h hk).1.idx_val
    simp only[Q.val,hn,V.intN];omega
   ·rename_i i hk
    have:=ZLt hb
    obtain⟨n,hn,h1,h2⟩:=(ZGN h hk).1.int_val
    simp only[Q.val,hn,V.intN];omega
   ·cases hb
  ·cases hb
theorem Z1L (h:Rel P KD ρ m a f nb g) {q:Q} (hq:ZRv a q=true):0≤q.val ρ:=by
 cases q with
 |z=> cases hq
 |n x=> cases hq
 |l x=> exact Int.natCast_nonneg _
 |r x=> exact Int.natCast_nonneg _
 |v y=>
  unfold ZRv at hq
  simp only at hq
  split at hq
  ·rename_i hk
   obtain⟨n,hn, -⟩:=(ZGN h hk).1.idx_val
   simp only[Q.val,hn,V.intN];omega
  ·cases hq
theorem ZVt {z:Q→Bool} {r:Q→Q→Int→Bool} (hz:∀p,z p=true→0≤p.val ρ) (hr:∀p q k,r p q k=true→p.val ρ - q.val ρ≤k):∀{l:List Fact} {p q:Q} {k:Int},(∀F∈l,F.ok P KD ρ)→ZOg z r p q k l=true→p.val ρ - q.val ρ≤k
 |[],_,_,_,_,h=> by cases h
 |F::l,p,q,k,hl,h=> by
  have ih:=ZVt hz hr (l:=l) (p:=p) (q:=q) (k:=k) fun G hG=> hl G (List.mem_cons_of_mem _ hG)
  have hF:=hl F (List.mem_cons_self ..)
  cases F with
  |c p' r' k'=>
   have h:(((Q.beq p' p||(Q.beq p .z && z p' && ZX9 p' q)) && r r' q (k - k'))||ZOg z r p q k l)=true:=h
   rw[Bool.or_eq_true,Bool.and_eq_true,Bool.or_eq_true,Bool.and_eq_true,Bool.and_eq_true] at h
   rcases h with ⟨h1|⟨⟨h1,h4⟩, -⟩,h2⟩|h
   ·have h3:p'.val ρ - r'.val ρ≤k':=hF
    rw[Q.beq_eq h1] at h3
    have:=hr _ _ _ h2
    omega
   ·have h3:p'.val ρ - r'.val ρ≤k':=hF
    rw[Q.beq_eq h1]
    have:=hr _ _ _ h2
    have h5:=hz _ h4
    show 0 - q.val ρ≤k
    omega
   ·exact ih h
  |_=> exact ih h
theorem ZGI (h:Rel P KD ρ m a f nb g):∀{d:Nat} {p q:Q} {k:Int},ent a d p q k=true→p.val ρ - q.val ρ≤k
 |0,_,_,_,he=> ZU7 h he
 |d+1,p,q,k,he=> by
  have he:(ZOS a p q k||ZOg (ZRv a) (ent a d) p q k a.fs)=true:=he
  rw[Bool.or_eq_true] at he
  rcases he with he|he
  ·exact ZU7 h he
  ·exact ZVt (fun _ hh=> Z1L h hh) (fun _ _ _ hh=> ZGI h hh) (fun F hF=> (h.fs F hF).2) he
end
end
section
mutual
def A.beq:A→A→Bool
 |.k v,.k w=> V.beq v w
 |.s x,.s y=> Nat.beq x y
 |.len x,.len y=> Nat.beq x y
 |.agg l,.agg l'=> A.beqs l l'
 |.tup l,.tup l'=> A.beqs l l'
 |.loc b o,.loc b' o'=> Nat.beq b b' && Nat.beq o o'
 |.ip l x,.ip l' x'=> Nat.beq x x' && A.beqs l l'
 |.lit l n z,.lit l' n' z'=> Nat.beq n n' && Nat.beq z z' && A.beqs l l'
 |.fn f l u,.fn f' l' u'=> Nat.beq f f' && A.beqs l l' && A.beqs u u'
 |_,_=> false
def A.beqs:List A→List A→Bool
 |[],[]=> true
 |x::l,y::l'=> A.beq x y && A.beqs l l'
 |_,_=> false
end
mutual
theorem A.beq_eq:∀{x y:A},A.beq x y=true→x=y
 |.k v,.k w,h=> by rw[V.beq_eq (a:=v) (b:=w) h]
 |.s x,.s y,h=> by rw[Nat.eq_of_beq_eq_true (n:=x) (m:=y) h]
 |.len x,.len y,h=> by rw[Nat.eq_of_beq_eq_true (n:=x) (m:=y) h]
 |.agg l,.agg l',h=> by rw[A.beqs_eq (x:=l) (y:=l') h]
 |.tup l,.tup l',h=> by rw[A.beqs_eq (x:=l) (y:=l') h]
 |.loc b o,.loc b' o',h=> by
  have h:(Nat.beq b b' && Nat.beq o o')=true:=h
  rw[Bool.and_eq_true] at h
  rw[Nat.eq_of_beq_eq_true h.1,Nat.eq_of_beq_eq_true h.2]
 |.ip l x,.ip l' x',h=> by
  have h:(Nat.beq x x' && A.beqs l l')=true:=h
  rw[Bool.and_eq_true] at h
  rw[Nat.eq_of_beq_eq_true h.1,A.beqs_eq h.2]
 |.lit l n z,.lit l' n' z',h=> by
  have h:(Nat.beq n n' && Nat.beq z z' && A.beqs l l')=true:=h
  rw[Bool.and_eq_true,Bool.and_eq_true] at h
  rw[Nat.eq_of_beq_eq_true h.1.1,Nat.eq_of_beq_eq_true h.1.2,A.beqs_eq h.2]
 |.fn f l u,.fn f' l' u',h=> by
  have h:(Nat.beq f f' && A.beqs l l' && A.beqs u u')=true:=h
  rw[Bool.and_eq_true,Bool.and_eq_true] at h
  rw[Nat.eq_of_beq_eq_true h.1.1,A.beqs_eq h.1.2,A.beqs_eq h.2]
 |.k _,.s _,h=> by cases h
 |.k _,.len _,h=> by cases h
 |.k _,.agg _,h=> by cases h
 |.k _,.tup _,h=> by cases h
 |.k _,.loc _ _,h=> by cases h
 |.k _,.ip _ _,h=> by cases h
 |.k _,.lit _ _ _,h=> by cases h
 |.k _,.fn _ _ _,h=> by cases h
 |.s _,.k _,h=> by cases h
 |.s _,.len _,h=> by cases h
 |.s _,.agg _,h=> by cases h
 |.s _,.tup _,h=> by cases h
 |.s _,.loc _ _,h=> by cases h
 |.s _,.ip _ _,h=> by cases h
 |.s _,.lit _ _ _,h=> by cases h
 |.s _,.fn _ _ _,h=> by cases h
 |.len _,.k _,h=> by cases h
 |.len _,.s _,h=> by cases h
 |.len _,.agg _,h=> by cases h
 |.len _,.tup _,h=> by cases h
 |.len _,.loc _ _,h=> by cases h
 |.len _,.ip _ _,h=> by cases h
 |.len _,.lit _ _ _,h=> by cases h
 |.len _,.fn _ _ _,h=> by cases h
 |.agg _,.k _,h=> by cases h
 |.agg _,.s _,h=> by cases h
 |.agg _,.len _,h=> by cases h
 |.agg _,.tup _,h=> by cases h
 |.agg _,.loc _ _,h=> by cases h
 |.agg _,.ip _ _,h=> by cases h
 |.agg _,.lit _ _ _,h=> by cases h
 |.agg _,.fn _ _ _,h=> by cases h
 |.tup _,.k _,h=> by cases h
 |.tup _,.s _,h=> by cases h
 |.tup _,.len _,h=> by cases h
 |.tup _,.agg _,h=> by cases h
 |.tup _,.loc _ _,h=> by cases h
 |.tup _,.ip _ _,h=> by cases h
 |.tup _,.lit _ _ _,h=> by cases h
 |.tup _,.fn _ _ _,h=> by cases h
 |.loc _ _,.k _,h=> by cases h
 |.loc _ _,.s _,h=> by cases h
 |.loc _ _,.len _,h=> by cases h
 |.loc _ _,.agg _,h=> by cases h
 |.loc _ _,.tup _,h=> by cases h
 |.loc _ _,.ip _ _,h=> by cases h
 |.loc _ _,.lit _ _ _,h=> by cases h
 |.loc _ _,.fn _ _ _,h=> by cases h
 |.ip _ _,.k _,h=> by cases h
 |.ip _ _,.s _,h=> by cases h
 |.ip _ _,.len _,h=> by cases h
 |.ip _ _,.agg _,h=> by cases h
 |.ip _ _,.tup _,h=> by cases h
 |.ip _ _,.loc _ _,h=> by cases h
 |.ip _ _,.lit _ _ _,h=> by cases h
 |.ip _ _,.fn _ _ _,h=> by cases h
 |.lit _ _ _,.k _,h=> by cases h
 |.lit _ _ _,.s _,h=> by cases h
 |.lit _ _ _,.len _,h=> by cases h
 |.lit _ _ _,.agg _,h=> by cases h
 |.lit _ _ _,.tup _,h=> by cases h
 |.lit _ _ _,.loc _ _,h=> by cases h
 |.lit _ _ _,.ip _ _,h=> by cases h
 |.lit _ _ _,.fn _ _ _,h=> by cases h
 |.fn _ _ _,.k _,h=> by cases h
 |.fn _ _ _,.s _,h=> by cases h
 |.fn _ _ _,.len _,h=> by cases h
 |.fn _ _ _,.agg _,h=> by cases h
 |.fn _ _ _,.tup _,h=> by cases h
 |.fn _ _ _,.loc _ _,h=> by cases h
 |.fn _ _ _,.ip _ _,h=> by cases h
 |.fn _ _ _,.lit _ _ _,h=> by cases h
theorem A.beqs_eq:∀{x y:List A},A.beqs x y=true→x=y
 |[],[],_=> rfl
 |x::l,y::l',h=> by
  have h:(A.beq x y && A.beqs l l')=true:=h
  rw[Bool.and_eq_true] at h
  rw[A.beq_eq h.1,A.beqs_eq h.2]
 |[],_::_,h=> by cases h
 |_::_,[],h=> by cases h
end
inductive AF where
 |no
 |rd (b:Nat)
 |wr (b:Nat)
 |nw (b:Nat)
 |call
 |ap
def ZN5 (m:Nat→Nat) (nb:Nat) (g:Nat→Blk) (e:Eff) (len:Nat):AF→Prop
 |.no=> e.rd=[]∧e.wr=[]∧e.nw=[]
 |.rd b=> e.rd=[m b]∧e.wr=[]∧e.nw=[]∧b < len
 |.wr b=> e.rd=[m b]∧(∃c,e.wr=[(m b,c)])∧e.nw=[]∧b < len
 |.nw b=> e.rd=[]∧e.wr=[]∧(∃c,e.nw=[c])∧m b=nb∧b < len
 |.call=> e.rd=[]∧e.wr=[]∧(e.nw=[]∨∃c,e.nw=[c])
 |.ap=> (e.rd=[]∧e.wr=[]∧∃c,e.nw=[c])∨∃r c,e.rd=[r]∧e.wr=[(r,c)]∧e.nw=[]∧r < nb∧(∃k,g r=.tok k)∧∀b,b < len→m b≠r
def K.ik:K→Option IntKind
 |.int k=> some k
 |.idx=> some .i64
 |_=> none
def K.sub (a b:K):Bool:=match a,b with
 |.idx,.int .i64=> true
 |.str n,.str m=> Nat.ble n m
 |.sl e r n,.sl e' r' m=> Nat.beq e e' && (r==r') && Nat.ble n m
 |a,b=> K.beq a b
def isStr:K→Bool
 |.str _=> true
 |_=> false
section
variable (P:Program) (KD:TypeId→Bool→List K)
def ZM5 (a a':SS) (m':Nat→Nat) (nb:Nat):Prop:=a.blks.length≤a'.blks.length∧∀b,a.blks.length≤b→b < a'.blks.length→nb≤m' b
theorem ZM5.len {a a':SS} {m':Nat→Nat} {nb:Nat} (h:a'.blks.length=a.blks.length):ZM5 a a' m' nb:=⟨by rw[h];exact Nat.le_refl _,fun b h1 h2=> by rw[h] at h2;exact absurd h2 (Nat.not_lt.2 h1)⟩
theorem ZM5.same {a a':SS} {m':Nat→Nat} {nb:Nat} (h:a'.blks=a.blks):ZM5 a a' m' nb:=.len (by rw[h])
def ZGK (ρ:Nat→V) (m:Nat→Nat) (a:SS) (f:Nat→V) (nb:Nat) (g:Nat→Blk) (e:Eff) (r:A×SS×AF):Prop:=
 ∃ρ' m' nb' g',XExt a ρ m ρ' m'∧a.nx≤r.2.1.nx∧ZM5 a r.2.1 m' nb∧nb≤nb'∧e.v=r.1.den ρ' m'∧Rel P KD ρ' m' r.2.1 f nb' g'∧(∀d,∃d',e.apply (mkH nb g d)=mkH nb' g' d')∧e.pan=false∧ZN5 m' nb g e r.2.1.blks.length r.2.2
def rdA (n:Nat) (a:SS):Operand→Option A
 |.tmp t=> cond (Nat.blt t n) (look a.regs t) none
 |.const v=> match ofValue v with
  |some v=> some (.k v)
  |none=> none
 |.func f=> some (.k (.fn (.func f) [] []))
 |.global _=> none
def ZRl:V→Option K
 |.bool _=> some .bool
 |.int k n=> cond ((Lit.int k n).wf) (some (.int k)) none
 |.str s=> cond (Nat.ble s.size 1099511627776) (some (.str s.size)) none
 |_=> none
def ZLM (a:SS):A→Option K
 |.k v=> ZRl v
 |.s x=> ZFS a x
 |.len x=> match ZFS a x with
  |some _=> some .idx
  |none=> none
 |_=> none
def ZKT (a:SS):A→Option (Q×Int)
 |.k (.int _ n)=> some (.z,n)
 |.s x=> match ZFS a x with
  |some k=> match K.ik k with
   |some _=> some (.v x,0)
   |none=> none
  |none=> none
 |.len x=> match ZFS a x with
  |some _=> some (.l x,0)
  |none=> none
 |_=> none
variable {P KD}
variable {ρ:Nat→V} {m:Nat→Nat} {a:SS} {f:Nat→V} {nb n:Nat} {g:Nat→Blk}
theorem ZKY (h:Rel P KD ρ m a f nb g) (hn:n < 1048576) {o:Operand} {x:A} (hx:rdA n a o=some x):rd (mkT 20 n f) o=some (x.den ρ m)∧x.bel a.nx a.blks.length=true:=by
 cases o with
 |tmp t=>
  have hx:cond (Nat.blt t n) (look a.regs t) none=some x:=hx
  cases hb:Nat.blt t n with
  |false=> rw[hb] at hx;cases hx
  |true=>
   rw[hb] at hx
   obtain⟨h1,h2⟩:=h.regs t x hx
   refine⟨?_,h2⟩
   show some (T.get ZmM (mkT 20 n f) t)=_
   rw[ZJw (ZGM hb) hn,h1]
 |const v=>
  have hx:(match ofValue v with
   |some v=> some (A.k v)
   |none=> none)=some x:=hx
  cases hv:ofValue v with
  |none=> rw[hv] at hx;cases hx
  |some w=>
   rw[hv] at hx
   cases hx
   exact⟨hv,rfl⟩
 |func f=> cases hx;exact⟨rfl,rfl⟩
 |global _=> cases hx
theorem TK.sub {k k':K} {v:V} (h:TK P KD k v) (hs:K.sub k k'=true):TK P KD k' v:=by
 unfold K.sub at hs
 split at hs
 ·obtain⟨n,rfl,hn⟩:=h.idx_val
  refine .int ?_
  simp only[Lit.wf,IntKind.min,IntKind.max,IntKind.signed,IntKind.bits,Bool.and_eq_true,decide_eq_true_eq]
  simp
  omega
 ·have hs:=Nat.le_of_ble_eq_true hs
  cases h with
  |str h1 h2=> exact .str h1 (Nat.le_trans h2 hs)
 ·rw[Bool.and_eq_true,Bool.and_eq_true] at hs
  obtain⟨⟨h1,h2⟩,h3⟩:=hs
  have h1:=Nat.eq_of_beq_eq_true h1
  have h2:=eq_of_beq h2
  have h3:=Nat.le_of_ble_eq_true h3
  subst h1 h2
  cases h with
  |nils=> exact .nils
  |ze=> exact .ze
  |vs hz hn hm hp h=> exact .vs hz hn (Nat.le_trans hm h3) hp h
 ·rw[←K.beq_eq hs];exact h
theorem Z1n {v:V} {k:K} (h:ZRl v=some k):TK P KD k v:=by
 cases v with
 |bool b=> cases h;exact .bool
 |int k n=>
  simp only[ZRl] at h
  cases hw:(Lit.int k n).wf with
  |false=> rw[hw] at h;cases h
  |true=> rw[hw] at h;cases h;exact .int hw
 |str s=>
  simp only[ZRl] at h
  cases hw:Nat.ble s.size 1099511627776 with
  |false=> rw[hw] at h;cases h
  |true=>
   rw[hw] at h
   cases h
   have:=Nat.le_of_ble_eq_true hw
   exact .str (by unfold maxLen;omega) (Nat.le_refl _)
 |_=> cases h
theorem ZMt (h:Rel P KD ρ m a f nb g) {x:A} {k:K} (hk:ZLM a x=some k):TK P KD k (x.den ρ m):=by
 cases x with
 |k v=> exact Z1n hk
 |s x=> exact(ZGN h hk).1
 |len x=>
  simp only[ZLM] at hk
  cases hik:ZFS a x with
  |none=> rw[hik] at hk;cases hk
  |some k'=>
   rw[hik] at hk
   cases hk
   have:=(ZGN h hik).1.lenN_le
   exact .idx (n:=V.lenN (ρ x)) (by unfold maxLen at this;omega)
 |_=> cases hk
theorem TK.ik {k:K} {i:IntKind} {v:V} (h:TK P KD k v) (hk:K.ik k=some i):∃n,v=.int i n∧(Lit.int i n).wf=true:=by
 cases h with
 |int hw=> cases hk;exact⟨_,rfl,hw⟩
 |idx hn=>
  cases hk
  refine⟨_,rfl,?_⟩
  simp only[Lit.wf,IntKind.min,IntKind.max,IntKind.signed,IntKind.bits,Bool.and_eq_true,decide_eq_true_eq]
  simp
  omega
 |_=> cases hk
theorem TK.isStr {k:K} {v:V} (h:TK P KD k v) (hk:isStr k=true):∃s,v=.str s:=by
 cases h <;> first|(cases hk;done)|exact⟨_,rfl⟩
theorem ZMN (h:Rel P KD ρ m a f nb g) {x:A} {q:Q} {k:Int} (hx:ZKT a x=some (q,k)):∃i n,x.den ρ m=.int i n∧n=q.val ρ+k∧q.bel a.nx=true:=by
 unfold ZKT at hx
 split at hx
 ·cases hx
  exact⟨_,_,rfl,by simp[Q.val],rfl⟩
 ·rename_i x
  split at hx
  ·rename_i k' hk
   split at hx
   ·rename_i i hi
    cases hx
    obtain⟨h1,h2⟩:=ZGN h hk
    obtain⟨n,hn, -⟩:=h1.ik hi
    exact⟨i,n,hn,by simp[Q.val,hn,V.intN],ZKy h2⟩
   ·cases hx
  ·cases hx
 ·rename_i x
  split at hx
  ·rename_i k' hk
   cases hx
   exact⟨_,_,rfl,by simp[Q.val],ZKy (ZGN h hk).2⟩
  ·cases hx
 ·cases hx
def SS.knowB (a:SS) (F:Fact):SS:=cond (F.bel a.nx) (a.know F) a
def knows:List Fact→SS→SS
 |[],a=> a
 |F::l,a=> knows l (a.knowB F)
structure SameS (a a':SS):Prop where
 regs:a'.regs=a.regs
 blks:a'.blks=a.blks
 nx:a'.nx=a.nx
 syms:a'.syms=a.syms
 ap:a'.ap=a.ap
 st:a'.st=a.st
theorem SameS.refl:SameS a a:=⟨rfl,rfl,rfl,rfl,rfl,rfl⟩
theorem SameS.trans {a b c:SS} (h:SameS a b) (h':SameS b c):SameS a c:=⟨h'.1.trans h.1,h'.2.trans h.2,h'.3.trans h.3,h'.4.trans h.4,h'.5.trans h.5,h'.6.trans h.6⟩
theorem SameS.knowB {F:Fact}:SameS a (a.knowB F):=by
 unfold SS.knowB
 cases F.bel a.nx <;> exact⟨rfl,rfl,rfl,rfl,rfl,rfl⟩
theorem SameS.knows:∀{l:List Fact} {a:SS},SameS a (knows l a)
 |[],a=> .refl
 |F::l,a=> SameS.knowB.trans (SameS.knows (l:=l))
theorem Rel.knowB (h:Rel P KD ρ m a f nb g) {F:Fact} (ho:F.ok P KD ρ):Rel P KD ρ m (a.knowB F) f nb g:=by
 unfold SS.knowB
 cases hb:F.bel a.nx with
 |false=> exact h
 |true=> exact h.know hb ho
theorem Rel.knows:∀{l:List Fact} {a:SS},Rel P KD ρ m a f nb g→(∀F∈l,F.ok P KD ρ)→Rel P KD ρ m (Ae.knows l a) f nb g
 |[],a,h,_=> h
 |F::l,a,h,hl=> Rel.knows (l:=l) (h.knowB (hl F (List.mem_cons_self ..))) fun G hG=> hl G (List.mem_cons_of_mem _ hG)
def one (x:A) (a:SS):Option (List (A×SS×AF)):=some [(x,a,.no)]
def ZK3 (k:K) (l:List Fact) (a:SS):Option (List (A×SS×AF)):=some [(.s a.nx,knows l (a.fresh (some ⟨k,true⟩)),.no)]
def pF (a:SS) (Q:List V→Prop) (xs:List A):List Fact:=cond (A.bels a.nx 0 xs) [.pr Q (xs++[.s a.nx])] []
theorem ZNW {Q:List V→Prop} {xs:List A} {v:V} (hq:Q (A.dens ρ m xs++[v])):∀F∈pF a Q xs,F.ok P KD (at1 ρ a.nx v):=by
 intro F hF
 unfold pF at hF
 cases hb:A.bels a.nx 0 xs with
 |false=> rw[hb] at hF;cases hF
 |true=>
  rw[hb] at hF
  obtain rfl:=List.mem_singleton.1 hF
  show Q (A.dens (at1 ρ a.nx v) (fun _=> 0) (xs++[.s a.nx]))
  have e:A.dens (at1 ρ a.nx v) (fun _=> 0) xs=A.dens ρ m xs:=A.dens_congr (b:=0) (fun y hy=> QF _ _ (by omega)) (fun c hc=> absurd hc (Nat.not_lt_zero c)) xs hb
  rw[ZLa,e]
  show Q (A.dens ρ m xs++[at1 ρ a.nx v a.nx])
  rw[zag];exact hq
theorem ZGK.val (h:Rel P KD ρ m a f nb g) {x:A} {v:V} (hv:v=x.den ρ m):ZGK P KD ρ m a f nb g {v:=v} (x,a,.no):=
 ⟨ρ,m,nb,g,.refl,Nat.le_refl _,.same rfl,Nat.le_refl _,hv,h,fun d=> ⟨d,rfl⟩,rfl,rfl,rfl,rfl⟩
theorem ZKv (h:Rel P KD ρ m a f nb g) {x:A} {v:V} {rs:List (A×SS×AF)} (hr:one x a=some rs) (hv:v=x.den ρ m):∃r∈rs,ZGK P KD ρ m a f nb g {v:=v} r:=by
 cases hr
 exact⟨_,List.mem_cons_self ..,.val h hv⟩
theorem zXW (h:Rel P KD ρ m a f nb g) {k:K} {l:List Fact} {v:V} {rs:List (A×SS×AF)} (hr:ZK3 k l a=some rs) (hv:TK P KD k v) (hp:V.pure v=true)
 (hl:∀F∈l,F.ok P KD (at1 ρ a.nx v)):∃r∈rs,ZGK P KD ρ m a f nb g {v:=v} r:=by
 cases hr
 have h1:=h.fresh (v:=v) (i:=some ⟨k,true⟩) fun j hj=> by cases hj;exact⟨hv,fun _=> hp⟩
 have hs:SameS (a.fresh (some ⟨k,true⟩)) (knows l (a.fresh (some ⟨k,true⟩))):=.knows
 refine⟨_,List.mem_cons_self ..,at1 ρ a.nx v,m,nb,g,⟨fun y hy=> QF _ _ (by omega),fun _ _=> rfl⟩,?_,.same hs.blks,Nat.le_refl _,(zag _ _ _).symm,h1.knows hl,fun d=> ⟨d,rfl⟩,rfl,rfl,rfl,rfl⟩
 show a.nx≤(knows l _).nx
 rw[hs.nx];exact Nat.le_succ _
theorem ZNV (h:Rel P KD ρ m a f nb g) {k:K} {v:V} {rs:List (A×SS×AF)} (hr:ZK3 k [] a=some rs) (hv:TK P KD k v) (hp:V.pure v=true):∃r∈rs,ZGK P KD ρ m a f nb g {v:=v} r:=
 zXW h hr hv hp fun _ hh=> by cases hh
theorem ZK9 {v:V} {q:Q} (hq:q.bel a.nx=true):q.val (at1 ρ a.nx v)=q.val ρ:=Q.val_congr hq fun y hy=> QF _ _ (by omega)
theorem ZN4 {v:V}:(Q.v a.nx).val (at1 ρ a.nx v)=V.intN v:=by show V.intN (at1 ρ a.nx v a.nx)=_;rw[zag]
def ZPW:BinOp→Option Bool
 |.eql|.leq|.geq=> some true
 |.neq|.lss|.gtr=> some false
 |_=> none
def ZM9 (op:BinOp) (p:Q) (i:Int) (q:Q) (j:Int):List (Q×Q×Int):=
 match op with
 |.lss=> [(p,q,j - i - 1)]
 |.leq=> [(p,q,j - i)]
 |.gtr=> [(q,p,i - j - 1)]
 |.geq=> [(q,p,i - j)]
 |.eql=> [(p,q,j - i),(q,p,i - j)]
 |_=> []
def ZNU:BinOp→BinOp
 |.lss=> .geq
 |.leq=> .gtr
 |.gtr=> .leq
 |.geq=> .lss
 |.eql=> .neq
 |.neq=> .eql
 |op=> op
def ZOd (a:SS) (op:BinOp) (p:Q) (i:Int) (q:Q) (j:Int):Bool:=
 match op with
 |.neq=> ent a 4 p q (j - i - 1)||ent a 4 q p (i - j - 1)
 |.eql=> ent a 4 p q (j - i) && ent a 4 q p (i - j)
 |.lss=> ent a 4 p q (j - i - 1)
 |.leq=> ent a 4 p q (j - i)
 |.gtr=> ent a 4 q p (i - j - 1)
 |.geq=> ent a 4 q p (i - j)
 |_=> false
def ZSV (x:Nat) (b:Bool) (c:Q×Q×Int):Fact:=.imp x b (.c c.1 c.2.1 c.2.2)
def ZNl:BinOp→Bool
 |.lss|.leq|.gtr|.geq|.eql|.neq=> true
 |_=> false
def ZSj (fs:List Fact) (a:SS) (op:BinOp) (p:Q) (i:Int) (q:Q) (j:Int):Option (List (A×SS×AF)):=
 cond (ZNl op) (cond (ZOd a op p i q j) (one (.k (.bool true)) a) (cond (ZOd a (ZNU op) p i q j) (one (.k (.bool false)) a)
  (ZK3 .bool (fs++(ZM9 op p i q j).map (ZSV a.nx true)++(ZM9 (ZNU op) p i q j).map (ZSV a.nx false)) a))) none
def opB (op:BinOp) (x y:Int):Bool:=
 match op with
 |.lss=> decide (x < y)
 |.leq=> decide (x≤y)
 |.gtr=> decide (x > y)
 |.geq=> decide (x ≥ y)
 |.eql=> x==y
 |.neq=> x !=y
 |_=> false
theorem Z1X {op:BinOp} (hc:ZNl op=true) (k:IntKind) (x y:Int):ZmK op k x k y=some (.bool (opB op x y)):=by
 cases op <;> first|(cases hc;done)|exact if_pos rfl
theorem ZXU {op:BinOp} (hc:ZNl op=true) (x y:Int):opB (ZNU op) x y= !opB op x y:=by
 cases op <;> first|(cases hc;done)|skip
 all_goals simp only[ZNU,opB]
 all_goals first|rfl|(rw[Bool.eq_iff_iff];simp only[decide_eq_true_eq,Bool.not_eq_true',decide_eq_false_iff_not];omega)|(cases hb:(x==y) <;> simp only[bne,hb] <;> rfl)
theorem ZVn (h:Rel P KD ρ m a f nb g) {op:BinOp} {p q:Q} {i j:Int} (hd:ZOd a op p i q j=true):opB op (p.val ρ+i) (q.val ρ+j)=true:=by
 unfold ZOd at hd
 split at hd
 ·rw[Bool.or_eq_true] at hd
  simp only[opB,bne_iff_ne,ne_eq]
  rcases hd with hd|hd <;> have:=ZGI h hd <;> omega
 ·rw[Bool.and_eq_true] at hd
  have h1:=ZGI h hd.1
  have h2:=ZGI h hd.2
  simp only[opB,beq_iff_eq];omega
 ·have:=ZGI h hd
  simp only[opB,decide_eq_true_eq];omega
 ·have:=ZGI h hd
  simp only[opB,decide_eq_true_eq];omega
 ·have:=ZGI h hd
  simp only[opB,decide_eq_true_eq];omega
 ·have:=ZGI h hd
  simp only[opB,decide_eq_true_eq];omega
 ·cases hd
theorem ZZR {op:BinOp} {ρ:Nat→V} {p q:Q} {i j:Int} (hb:opB op (p.val ρ+i) (q.val ρ+j)=true):∀c∈ZM9 op p i q j,c.1.val ρ - c.2.1.val ρ≤c.2.2:=by
 intro c hc
 unfold ZM9 at hc
 split at hc
 ·simp only[opB,decide_eq_true_eq] at hb
  obtain rfl:=List.mem_singleton.1 hc
  simp only;omega
 ·simp only[opB,decide_eq_true_eq] at hb
  obtain rfl:=List.mem_singleton.1 hc
  simp only;omega
 ·simp only[opB,decide_eq_true_eq] at hb
  obtain rfl:=List.mem_singleton.1 hc
  simp only;omega
 ·simp only[opB,decide_eq_true_eq] at hb
  obtain rfl:=List.mem_singleton.1 hc
  simp only;omega
 ·simp only[opB,beq_iff_eq] at hb
  rcases List.mem_cons.1 hc with rfl|hc
  ·simp only;omega
  ·obtain rfl:=List.mem_singleton.1 hc
   simp only;omega
 ·cases hc
theorem ZZS {op:BinOp} {p q:Q} {i j:Int}:∀c∈ZM9 op p i q j,(c.1=p∨c.1=q)∧(c.2.1=p∨c.2.1=q):=by
 intro c hc
 cases op <;> simp only[ZM9,List.mem_cons,List.not_mem_nil,or_false] at hc <;> first|(cases hc;done)|skip
 all_goals first|(subst hc;simp;done)|(rcases hc with rfl|rfl <;> simp)
theorem ZZQ (h:Rel P KD ρ m a f nb g) {fs:List Fact} {op:BinOp} {p q:Q} {i j:Int} (hp:p.bel a.nx=true) (hq:q.bel a.nx=true) (hfs:∀F∈fs,F.ok P KD (at1 ρ a.nx (.bool (opB op (p.val ρ+i) (q.val ρ+j))))) {rs:List (A×SS×AF)} (hr:ZSj fs a op p i q j=some rs):
 ZNl op=true∧∃r∈rs,ZGK P KD ρ m a f nb g {v:=.bool (opB op (p.val ρ+i) (q.val ρ+j))} r:=by
 unfold ZSj at hr
 cases hc:ZNl op with
 |false=> rw[hc] at hr;cases hr
 |true=>
  rw[hc] at hr
  refine⟨rfl,?_⟩
  cases hd:ZOd a op p i q j with
  |true=>
   rw[hd] at hr
   exact ZKv h hr (by rw[ZVn h hd];rfl)
  |false=>
   rw[hd] at hr
   cases hd2:ZOd a (ZNU op) p i q j with
   |true=>
    rw[hd2] at hr
    have:=ZVn h hd2
    rw[ZXU hc] at this
    exact ZKv h hr (by rw[show opB op (p.val ρ+i) (q.val ρ+j)=false by simpa using this];rfl)
   |false=>
    rw[hd2] at hr
    simp only[cond_true,cond_false] at hr
    refine zXW h hr .bool rfl fun F hF=> ?_
    have key:∀(op:BinOp) (b:Bool),(opB op (p.val ρ+i) (q.val ρ+j)=true)→∀c∈ZM9 op p i q j,∀w:V,(ZSV a.nx b c).ok P KD (at1 ρ a.nx w):=by
     intro op b hb c hcm w _
     have h1:=ZZR hb c hcm
     have h2:=ZZS c hcm
     show c.1.val (at1 ρ a.nx w) - c.2.1.val (at1 ρ a.nx w)≤c.2.2
     have e1:c.1.val (at1 ρ a.nx w)=c.1.val ρ:=ZK9 (by rcases h2.1 with e|e <;> rw[e] <;> assumption)
     have e2:c.2.1.val (at1 ρ a.nx w)=c.2.1.val ρ:=ZK9 (by rcases h2.2 with e|e <;> rw[e] <;> assumption)
     rw[e1,e2];exact h1
    rcases List.mem_append.1 hF with hF|hF
    rcases List.mem_append.1 hF with hF|hF
    ·exact hfs F hF
    ·obtain⟨c,hcm,rfl⟩:=List.mem_map.1 hF
     cases hv:opB op (p.val ρ+i) (q.val ρ+j) with
     |true=> exact key op true hv c hcm _
     |false=>
      intro hx
      rw[zag] at hx
      cases hx
    ·obtain⟨c,hcm,rfl⟩:=List.mem_map.1 hF
     cases hv:opB op (p.val ρ+i) (q.val ρ+j) with
     |false=> exact key (ZNU op) false (by rw[ZXU hc,hv];rfl) c hcm _
     |true=>
      intro hx
      rw[zag] at hx
      cases hx
end
end
section
section
variable (P:Program) (KD:TypeId→Bool→List K)
def ZOQ (a:SS) (i:IntKind) (p:Q) (k c:Int):Option (List (A×SS×AF)):=
 cond (decide (i=.i64) && ent a 4 p .z (9223372036854775807 - k - c) && ent a 4 .z p (k+c+9223372036854775808))
  (ZK3 (cond (ent a 4 .z p (k+c)) .idx (.int i)) [.c (.v a.nx) p (k+c),.c p (.v a.nx) (-(k+c))] a) (ZK3 (.int i) [] a)
def ZUX (a:SS) (i:IntKind) (x y:A):Option (List (A×SS×AF)):=
 match ZKT a x,ZKT a y with
 |some (p,k),some (.z,c)=> ZOQ a i p k c
 |some (.z,c),some (q,k)=> ZOQ a i q k c
 |_,_=> ZK3 (.int i) [] a
def ZYC (a:SS) (i:IntKind) (x y:A):Option (List (A×SS×AF)):=
 match ZKT a x,ZKT a y with
 |some (p,k),some (.z,c)=> ZOQ a i p k (-c)
 |some (p,k),some (q,j)=> cond (decide (i=.i64) && ent a 4 .z p k && ent a 4 .z q j)
  (ZK3 (cond (ent a 4 q p (k - j)) .idx (.int i)) [.c (.v a.nx) p (cond (ent a 4 .z q (j - 1)) (k - 1) k)] a) (ZK3 (.int i) [] a)
 |_,_=> ZK3 (.int i) [] a
def eqQ (c:Bool):List V→Prop:=fun l=> ∃u v b,l=[u,v,.bool b]∧(b=c↔u=v)
def ZOR:List V→Prop:=fun l=> ∃p q,l=[.str p,.str q,.str (p++q)]
def eqF (a:SS) (op:BinOp) (x y:A):List Fact:=
 match op with
 |.eql=> pF a (eqQ true) [x,y]
 |.neq=> pF a (eqQ false) [x,y]
 |_=> []
def ZSZ (a:SS) (op:BinOp) (i:IntKind) (x y:A):Option (List (A×SS×AF)):=
 match op with
 |.add=> ZUX a i x y
 |.sub=> ZYC a i x y
 |.mul=> ZK3 (.int i) [] a
 |op=> match ZKT a x,ZKT a y with
  |some (p,k),some (q,j)=> ZSj (eqF a op x y) a op p k q j
  |_,_=> none
def ZMW (e:Bool) (a:SS) (op:BinOp) (x y:A):Option (List (A×SS×AF)):=
 match ZPW op with
 |some c=> cond (A.beq x y) (one (.k (.bool c)) a) (ZK3 .bool (cond e (eqF a op x y) []) a)
 |none=> none
def ZRU (a:SS):A→Option Nat
 |.k (.str s)=> some s.size
 |.s x=> match ZFS a x with
  |some (.str n)=> cond (Nat.ble n 1099511627776) (some n) (cond (ent a 4 (.l x) .z 1099511627776) (some 1099511627776) none)
  |_=> none
 |_=> none
def ZTU (a:SS) (op:BinOp) (x y:A):Option (List (A×SS×AF)):=
 match op with
 |.add=> match ZRU a x,ZRU a y with
  |some n,some m=> cond (Nat.ble (n+m) 4611686018427387904) (ZK3 (.str (n+m)) (pF a ZOR [x,y]) a) none
  |_,_=> none
 |op=> ZMW true a op x y
def ZNe (a:SS) (xs ys:List A) (f:Field):Bool:=
 (f.name== "_")||(match P.underlying f.type,xs[f.offset]?,ys[f.offset]? with
  |some (.int k),some x,some y=> (match ZLM a x,ZLM a y with
   |some kx,some ky=> (match K.ik kx,K.ik ky with
    |some i,some j=> decide (i=k) && decide (j=k)
    |_,_=> false)
   |_,_=> false)
  |_,_,_=> false)
def ZPI (fs:List Field) (n m:Nat):Bool:=fs.all (fun f=> !(f.name== "_")) && decide (fs.map (·.offset)=List.range n) && Nat.beq m n
def ZTV (a:SS) (op:BinOp) (t:TypeId) (xs ys:List A):Option (List (A×SS×AF)):=
 match und P t,op with
 |.struct fs,.eql=> cond (!P.stoodInHeld t && !P.eqGuardType P.depth t && fs.toList.all (ZNe P a xs ys)) (ZMW (ZPI fs.toList xs.length ys.length) a .eql (.agg xs) (.agg ys)) none
 |.struct fs,.neq=> cond (!P.stoodInHeld t && !P.eqGuardType P.depth t && fs.toList.all (ZNe P a xs ys)) (ZMW (ZPI fs.toList xs.length ys.length) a .neq (.agg xs) (.agg ys)) none
 |_,_=> none
def ZSe (a:SS) (op:BinOp) (t:TypeId) (x y:A):Option (List (A×SS×AF)):=
 match ZLM a x,ZLM a y with
 |some kx,some ky=> match K.ik kx,K.ik ky with
  |some i,some j=> if i=j then ZSZ a op i x y else none
  |_,_=> cond (isStr kx && isStr ky) (ZTU a op x y) (match kx,ky,und P t,op with
   |.bool,.bool,.bool,.eql=> ZMW true a .eql x y
   |.bool,.bool,.bool,.neq=> ZMW true a .neq x y
   |_,_,_,_=> none)
 |_,_=> none
def ZSd (a:SS) (op:BinOp) (t:TypeId) (cx cy:Bool) (x y:A):Option (List (A×SS×AF)):=
 match x,y with
 |.k u,.k v=> match ZmJ P op t cx cy u v with
  |some w=> one (.k w) a
  |none=> none
 |.agg xs,.agg ys=> ZTV P a op t xs ys
 |x,y=> ZSe P a op t x y
variable {P KD}
variable {ρ:Nat→V} {m:Nat→Nat} {a:SS} {f:Nat→V} {nb n:Nat} {g:Nat→Blk}
theorem ZON (k:IntKind) (n:Int):(Lit.int k (k.wrap n)).wf=true:=by
 simp only[Lit.wf,Bool.and_eq_true,decide_eq_true_eq,IntKind.wrap,IntKind.min,IntKind.max]
 cases k <;> simp[IntKind.signed,IntKind.bits] <;> omega
theorem ZWR {n:Int} (h1: -9223372036854775808≤n) (h2:n≤9223372036854775807):(Lit.int .i64 n).wf=true:=by
 simp only[Lit.wf,IntKind.min,IntKind.max,IntKind.signed,IntKind.bits,Bool.and_eq_true,decide_eq_true_eq]
 simp;omega
theorem ZUT {n:Int} (h:(Lit.int .i64 n).wf=true): -9223372036854775808≤n∧n≤9223372036854775807:=by
 simp only[Lit.wf,IntKind.min,IntKind.max,IntKind.signed,IntKind.bits,Bool.and_eq_true,decide_eq_true_eq] at h
 simp at h;omega
theorem ZKL:Q.val ρ .z=0:=rfl
theorem ZR3 (h:Rel P KD ρ m a f nb g) {i:IntKind} {p:Q} {k c:Int} (hp:p.bel a.nx=true) {rs:List (A×SS×AF)} (hr:ZOQ a i p k c=some rs):
 ∃r∈rs,ZGK P KD ρ m a f nb g {v:=.int i (i.wrap (p.val ρ+k+c))} r:=by
 unfold ZOQ at hr
 cases hb:decide (i=.i64) && ent a 4 p .z (9223372036854775807 - k - c) && ent a 4 .z p (k+c+9223372036854775808) with
 |false=> rw[hb] at hr;exact ZNV h hr (.int (ZON ..)) rfl
 |true=>
  rw[hb] at hr
  rw[Bool.and_eq_true,Bool.and_eq_true,decide_eq_true_eq] at hb
  obtain⟨⟨rfl,h1⟩,h2⟩:=hb
  have h1:=ZGI h h1
  have h2:=ZGI h h2
  simp only[ZKL] at h1 h2
  have hw:IntKind.wrap .i64 (p.val ρ+k+c)=p.val ρ+k+c:=za4 (by omega) (by omega)
  rw[hw]
  refine zXW h hr ?_ rfl fun F hF=> ?_
  ·cases hk:ent a 4 .z p (k+c) with
   |false=> exact .int (ZWR (by omega) (by omega))
   |true=>
    have:=ZGI h hk
    simp only[ZKL] at this
    obtain⟨N,hN⟩:=Int.eq_ofNat_of_zero_le (show 0≤p.val ρ+k+c by omega)
    rw[hN]
    exact .idx (by omega)
  ·rcases List.mem_cons.1 hF with rfl|hF
   ·show(Q.v a.nx).val _ - p.val _≤_
    rw[ZN4,ZK9 hp];simp only[V.intN];omega
   ·obtain rfl:=List.mem_singleton.1 hF
    show p.val _ - (Q.v a.nx).val _≤_
    rw[ZN4,ZK9 hp];simp only[V.intN];omega
theorem ZLN (h:Rel P KD ρ m a f nb g) {x:A} {q:Q} {k:Int} (hx:ZKT a x=some (q,k)) {i:IntKind} {n:Int} (hd:x.den ρ m=.int i n):n=q.val ρ+k∧q.bel a.nx=true:=by
 obtain⟨i',n',h1,h2,h3⟩:=ZMN h hx
 rw[hd] at h1
 cases h1
 exact⟨h2,h3⟩
theorem Z0u (h:Rel P KD ρ m a f nb g) {op:BinOp} {x y:A} {i:IntKind} {p q:Int} (hx:x.den ρ m=.int i p) (hy:y.den ρ m=.int i q) (wx:(Lit.int i p).wf=true) (wy:(Lit.int i q).wf=true) {rs:List (A×SS×AF)} (hr:ZSZ a op i x y=some rs):
 ∃w,ZmK op i p i q=some w∧∃r∈rs,ZGK P KD ρ m a f nb g {v:=w} r:=by
 unfold ZSZ at hr
 split at hr
 ·refine⟨_,if_pos rfl,?_⟩
  unfold ZUX at hr
  split at hr
  ·rename_i p' k c h1 h2
   obtain⟨rfl,hb⟩:=ZLN h h1 hx
   obtain⟨rfl, -⟩:=ZLN h h2 hy
   have:=ZR3 h hb hr
   simp only[ZKL,Int.zero_add]
   exact this
  ·rename_i c q' k _ h1 h2
   obtain⟨rfl, -⟩:=ZLN h h1 hx
   obtain⟨rfl,hb⟩:=ZLN h h2 hy
   have:=ZR3 h hb hr
   simp only[ZKL,Int.zero_add]
   rw[Int.add_comm c]
   exact this
  ·exact ZNV h hr (.int (ZON ..)) rfl
 ·refine⟨_,if_pos rfl,?_⟩
  unfold ZYC at hr
  split at hr
  ·rename_i p' k c h1 h2
   obtain⟨rfl,hb⟩:=ZLN h h1 hx
   obtain⟨rfl, -⟩:=ZLN h h2 hy
   have:=ZR3 h hb hr
   simp only[ZKL,Int.zero_add]
   rw[Int.sub_eq_add_neg]
   exact this
  ·rename_i p' k q' j _ h1 h2
   obtain⟨rfl,hbp⟩:=ZLN h h1 hx
   obtain⟨rfl,hbq⟩:=ZLN h h2 hy
   cases hb:decide (i=.i64) && ent a 4 .z p' k && ent a 4 .z q' j with
   |false=> rw[hb] at hr;exact ZNV h hr (.int (ZON ..)) rfl
   |true=>
    rw[hb] at hr
    rw[Bool.and_eq_true,Bool.and_eq_true,decide_eq_true_eq] at hb
    obtain⟨⟨rfl,e1⟩,e2⟩:=hb
    have e1:=ZGI h e1
    have e2:=ZGI h e2
    have w1:=ZUT wx
    have w2:=ZUT wy
    simp only[ZKL] at e1 e2
    have hw:IntKind.wrap .i64 (p'.val ρ+k - (q'.val ρ+j))=p'.val ρ+k - (q'.val ρ+j):=za4 (by omega) (by omega)
    rw[hw]
    refine zXW h hr ?_ rfl fun F hF=> ?_
    ·cases hk:ent a 4 q' p' (k - j) with
     |false=> exact .int (ZWR (by omega) (by omega))
     |true=>
      have:=ZGI h hk
      obtain⟨N,hN⟩:=Int.eq_ofNat_of_zero_le (show 0≤p'.val ρ+k - (q'.val ρ+j) by omega)
      rw[hN]
      exact .idx (by omega)
    ·obtain rfl:=List.mem_singleton.1 hF
     show(Q.v a.nx).val _ - p'.val _≤_
     rw[ZN4,ZK9 hbp]
     simp only[V.intN]
     cases hl:ent a 4 .z q' (j - 1) with
     |false=> simp only[cond_false];omega
     |true=>
      have:=ZGI h hl
      simp only[ZKL] at this
      simp only[cond_true];omega
  ·exact ZNV h hr (.int (ZON ..)) rfl
 ·exact⟨_,if_pos rfl,ZNV h hr (.int (ZON ..)) rfl⟩
 ·split at hr
  ·rename_i p' k q' j h1 h2
   obtain⟨rfl,hbp⟩:=ZLN h h1 hx
   obtain⟨rfl,hbq⟩:=ZLN h h2 hy
   obtain⟨hc,hr⟩:=ZZQ h hbp hbq (fun F hF=> by
    unfold eqF at hF
    split at hF
    ·refine ZNW (m:=m) ⟨_,_,_,rfl,?_⟩ F hF
     rw[hx,hy]
     simp only[opB]
     rw[beq_iff_eq]
     exact⟨fun e=> by rw[e],fun e=> by injection e⟩
    ·refine ZNW (m:=m) ⟨_,_,_,rfl,?_⟩ F hF
     rw[hx,hy]
     simp only[opB]
     rw[bne_eq_false_iff_eq]
     exact⟨fun e=> by rw[e],fun e=> by injection e⟩
    ·cases hF) hr
   exact⟨_,Z1X hc _ _ _,hr⟩
  ·cases hr
theorem ZRK (h:Rel P KD ρ m a f nb g) {op:BinOp} {e:Bool} {x y:A} {rs:List (A×SS×AF)} (hr:ZMW e a op x y=some rs):
 ∃c,ZPW op=some c∧∀b:Bool,(x.den ρ m=y.den ρ m→b=c)→(e=true→op=.eql∨op=.neq→b=c→x.den ρ m=y.den ρ m)→∃r∈rs,ZGK P KD ρ m a f nb g {v:=.bool b} r:=by
 unfold ZMW at hr
 cases hc:ZPW op with
 |none=> rw[hc] at hr;cases hr
 |some c=>
  rw[hc] at hr
  refine⟨c,rfl,fun b hb hb2=> ?_⟩
  simp only at hr
  cases hs:A.beq x y with
  |true=>
   rw[hs] at hr
   rw[A.beq_eq hs] at hb
   exact ZKv h hr (by rw[hb rfl];rfl)
  |false=>
   rw[hs] at hr
   refine zXW h hr .bool rfl fun F hF=> ?_
   cases e with
   |false=> cases hF
   |true=>
    have hF:F∈eqF a op x y:=hF
    unfold eqF at hF
    split at hF
    ·cases hc
     exact ZNW (m:=m) ⟨_,_,b,rfl,hb2 rfl (Or.inl rfl),hb⟩ F hF
    ·cases hc
     exact ZNW (m:=m) ⟨_,_,b,rfl,hb2 rfl (Or.inr rfl),hb⟩ F hF
    ·cases hF
theorem ZYA {p q:ByteArray} (h:p.data.toList=q.data.toList):p=q:=by
 cases p;cases q
 exact congrArg ByteArray.mk (Array.toList_inj.1 h)
theorem ZZT {op:BinOp} {c:Bool} (hc:ZPW op=some c) (p q:ByteArray):∃b,ZF5 op p q=some (.bool b)∧(p=q→b=c)∧(op=.eql∨op=.neq→b=c→p=q):=by
 have hi:∀l:List UInt8,Op.bytesLess l l=false:=by
  intro l
  induction l with
  |nil=> rfl
  |cons x l ih=> simp[Op.bytesLess,ih]
 cases op <;> cases hc
 all_goals refine⟨_,rfl,fun h=> by subst h;simp[hi],fun h=> ?_⟩
 all_goals first|(rcases h with h|h <;> cases h;done)|skip
 ·intro h;exact ZYA (eq_of_beq h)
 ·intro h;exact ZYA (eq_of_beq (by simpa using h))
theorem ZYz (h:Rel P KD ρ m a f nb g) {x:A} {n:Nat} (hn:ZRU a x=some n) {s:ByteArray} (hs:x.den ρ m=.str s):s.size≤n:=by
 unfold ZRU at hn
 split at hn
 ·cases hn
  cases hs
  exact Nat.le_refl _
 ·rename_i x
  split at hn
  ·rename_i k hk
   have ht:=(ZGN h hk).1
   have hs:ρ x=.str s:=hs
   cases hb:Nat.ble k 1099511627776 with
   |true=>
    rw[hb] at hn
    cases hn
    rw[hs] at ht
    cases ht with
    |str h1 h2=> exact h2
   |false=>
    rw[hb] at hn
    simp only[cond_false] at hn
    cases he:ent a 4 (.l x) .z 1099511627776 with
    |false=> rw[he] at hn;cases hn
    |true=>
     rw[he] at hn
     cases hn
     have:=ZGI h he
     simp only[Q.val,hs,V.lenN] at this
     omega
  ·cases hn
 ·cases hn
theorem Z2B (h:Rel P KD ρ m a f nb g) {op:BinOp} {x y:A} {p q:ByteArray} (hx:x.den ρ m=.str p) (hy:y.den ρ m=.str q) {rs:List (A×SS×AF)} (hr:ZTU a op x y=some rs):
 ∃w,ZF5 op p q=some w∧∃r∈rs,ZGK P KD ρ m a f nb g {v:=w} r:=by
 unfold ZTU at hr
 split at hr
 ·split at hr
  ·rename_i n m' h1 h2
   have h1:=ZYz h h1 hx
   have h2:=ZYz h h2 hy
   cases hb:Nat.ble (n+m') 4611686018427387904 with
   |false=> rw[hb] at hr;cases hr
   |true=>
    rw[hb] at hr
    have hb:=Nat.le_of_ble_eq_true hb
    have hs:(p++q).size=p.size+q.size:=ByteArray.size_append
    have:¬((p.size+q.size:Nat):Int) > IntKind.i64.max:=by
     have:IntKind.i64.max=9223372036854775807:=by decide
     rw[this];omega
    exact⟨.str (p++q),if_neg this,zXW h hr (.str (by rw[hs];unfold maxLen;omega) (by rw[hs];omega)) rfl (ZNW (m:=m) ⟨p,q,by show[x.den ρ m,y.den ρ m,_]=_;rw[hx,hy]⟩)⟩
  ·cases hr
 ·obtain⟨c,hc,hk⟩:=ZRK h hr
  obtain⟨b,h1,h2,h3⟩:=ZZT hc p q
  refine⟨_,h1,hk b (fun he=> h2 ?_) fun _ ho hbc=> by rw[hx,hy,h3 ho hbc]⟩
  rw[hx,hy] at he
  cases he;rfl
theorem ZZ0 {d:Nat} {t:TypeId} {k:IntKind} (hu:P.underlying t=some (.int k)) (p q:Int):eqV P (d+1) t (.int k p) (.int k q)=some (p==q):=by
 have:und P t=.int k:=by unfold und;rw[hu];rfl
 unfold eqV
 rw[this]
 simp only[if_true]
theorem ZZ7 (h:Rel P KD ρ m a f nb g) {xs ys:List A} {fl:Field} (hf:ZNe P a xs ys fl=true):fl.name= "_"∨∃k p q,P.underlying fl.type=some (.int k)∧(A.dens ρ m xs)[fl.offset]?=some (.int k p)∧(A.dens ρ m ys)[fl.offset]?=some (.int k q):=by
 unfold ZNe at hf
 rw[Bool.or_eq_true] at hf
 rcases hf with hf|hf
 ·exact Or.inl (eq_of_beq hf)
 ·right
  split at hf
  ·rename_i k x y hu hx hy
   split at hf
   ·rename_i kx ky hkx hky
    split at hf
    ·rename_i i j hi hj
     rw[Bool.and_eq_true,decide_eq_true_eq,decide_eq_true_eq] at hf
     obtain⟨rfl,rfl⟩:=hf
     obtain⟨p,hp, -⟩:=(ZMt h hkx).ik hi
     obtain⟨q,hq, -⟩:=(ZMt h hky).ik hj
     exact⟨_,p,q,hu,by rw[ZLp,hx];exact congrArg some hp,by rw[ZLp,hy];exact congrArg some hq⟩
    ·cases hf
   ·cases hf
  ·cases hf
theorem ZVw {xs ys:List V}:∀{fs:List Field},(∀fl∈fs,fl.name= "_"∨∃k p q,P.underlying fl.type=some (.int k)∧xs[fl.offset]?=some (.int k p)∧ys[fl.offset]?=some (.int k q))→
 ∃b,fs.foldr (fun f k=> if f.name≠ "_" then
  match ZCC P f.type (xs.drop f.offset),ZCC P f.type (ys.drop f.offset) with
  |some a,some b=> match eqV P 99 f.type a b with
   |some true=> k
   |r=> r
  |_,_=> none
 else k) (some true)=some b∧(xs=ys→b=true)∧(b=true→∀fl∈fs,fl.name≠ "_"→xs[fl.offset]?=ys[fl.offset]?)
 |[],_=> ⟨true,rfl,fun _=> rfl,fun _ _ h=> by cases h⟩
 |fl::fs,hf=> by
  obtain⟨b,h1,h2,h4⟩:=ZVw (fs:=fs) fun g hg=> hf g (List.mem_cons_of_mem _ hg)
  rw[List.foldr_cons,h1]
  rcases hf fl (List.mem_cons_self ..) with hn|⟨k,p,q,hu,hx,hy⟩
  ·rw[if_neg (by rw[hn];simp)]
   refine⟨b,rfl,h2,fun hb f hfm hne=> ?_⟩
   rcases List.mem_cons.1 hfm with rfl|hfm
   ·exact absurd hn hne
   ·exact h4 hb f hfm hne
  ·by_cases hn:fl.name= "_"
   ·rw[if_neg (by rw[hn];simp)]
    refine⟨b,rfl,h2,fun hb f hfm hne=> ?_⟩
    rcases List.mem_cons.1 hfm with rfl|hfm
    ·exact absurd hn hne
    ·exact h4 hb f hfm hne
   ·rw[if_pos hn]
    have hl:∀{zs:List V} {r:Int},zs[fl.offset]?=some (.int k r)→ZCC P fl.type (zs.drop fl.offset)=some (.int k r):=by
     intro zs r hz
     have hu':und P fl.type=.int k:=by unfold und;rw[hu];rfl
     unfold ZCC ZDM
     rw[hu']
     simp only[Bool.false_eq_true,if_false]
     rw[if_pos (by unfold okU;rw[hu];rfl),List.head?_drop]
     exact hz
    rw[hl hx,hl hy]
    simp only
    rw[ZZ0 (d:=98) hu]
    cases hpq:(p==q) with
    |true=>
     refine⟨b,rfl,h2,fun hb f hfm hne=> ?_⟩
     rcases List.mem_cons.1 hfm with rfl|hfm
     ·rw[hx,hy,eq_of_beq hpq]
     ·exact h4 hb f hfm hne
    |false=>
     refine⟨false,rfl,fun he=> ?_,fun hb=> by cases hb⟩
     rw[he,hy] at hx
     cases hx
     simp at hpq
theorem Z2C (h:Rel P KD ρ m a f nb g) {op:BinOp} {t:TypeId} {cx cy:Bool} {xs ys:List A} {rs:List (A×SS×AF)} (hr:ZTV P a op t xs ys=some rs):
 ∃w,ZmJ P op t cx cy (.agg (A.dens ρ m xs)) (.agg (A.dens ρ m ys))=some w∧∃r∈rs,ZGK P KD ρ m a f nb g {v:=w} r:=by
 unfold ZTV at hr
 have key:∀{fs:Array Field},und P t=.struct fs→(!P.stoodInHeld t && !P.eqGuardType P.depth t && fs.toList.all (ZNe P a xs ys))=true→∃b,eqV P 100 t (.agg (A.dens ρ m xs)) (.agg (A.dens ρ m ys))=some b∧(A.dens ρ m xs=A.dens ρ m ys→b=true)∧(ZPI fs.toList xs.length ys.length=true→b=true→A.dens ρ m xs=A.dens ρ m ys)∧ZGG P t cx cy (.agg (A.dens ρ m xs)) (.agg (A.dens ρ m ys))=true:=by
  intro fs hu hb
  rw[Bool.and_eq_true,Bool.and_eq_true,List.all_eq_true] at hb
  obtain⟨⟨b1,b2⟩,b3⟩:=hb
  obtain⟨b,h1,h2,h5⟩:=ZVw (P:=P) (xs:=A.dens ρ m xs) (ys:=A.dens ρ m ys) (fs:=fs.toList) fun fl hfl=> ZZ7 h (b3 fl hfl)
  refine⟨b,?_,h2,fun ha hbt=> ?_,b2⟩
  rotate_left
  ·unfold ZPI at ha
   rw[Bool.and_eq_true,Bool.and_eq_true,List.all_eq_true,decide_eq_true_eq] at ha
   obtain⟨⟨a1,a2⟩,a3⟩:=ha
   have a3:=Nat.eq_of_beq_eq_true a3
   apply List.ext_getElem?
   intro i
   by_cases hi:i < xs.length
   ·have hm:i∈fs.toList.map (·.offset):=by rw[a2];exact List.mem_range.2 hi
    obtain⟨fl,hfl,rfl⟩:=List.mem_map.1 hm
    exact h5 hbt fl hfl (by simpa using a1 fl hfl)
   ·rw[List.getElem?_eq_none (by rw[ZLb];omega),List.getElem?_eq_none (by rw[ZLb];omega)]
  unfold eqV
  rw[hu]
  simp only
  rw[if_neg (by simpa using b1)]
  exact h1
 split at hr
 ·rename_i fs hu
  cases hb:(!P.stoodInHeld t && !P.eqGuardType P.depth t && fs.toList.all (ZNe P a xs ys)) with
  |false=> rw[hb] at hr;cases hr
  |true=>
   rw[hb] at hr
   simp only[cond_true] at hr
   obtain⟨b,h1,h2,h4,h3⟩:=key hu hb
   obtain⟨c,hc,hk⟩:=ZRK h hr
   cases hc
   refine⟨.bool b,?_,hk b (fun he=> h2 (by injection he)) fun hh _ hbt=> congrArg V.agg (h4 hh hbt)⟩
   unfold ZmJ
   simp only
   rw[if_pos h3,h1];rfl
 ·rename_i fs hu
  cases hb:(!P.stoodInHeld t && !P.eqGuardType P.depth t && fs.toList.all (ZNe P a xs ys)) with
  |false=> rw[hb] at hr;cases hr
  |true=>
   rw[hb] at hr
   simp only[cond_true] at hr
   obtain⟨b,h1,h2,h4,h3⟩:=key hu hb
   obtain⟨c,hc,hk⟩:=ZRK h hr
   cases hc
   refine⟨.bool !b,?_,hk (!b) (fun he=> by rw[h2 (by injection he)];rfl) fun hh _ hbt=> congrArg V.agg (h4 hh (by simpa using hbt))⟩
   unfold ZmJ
   simp only
   rw[if_pos h3,h1];rfl
 ·cases hr
theorem ZZC (h:Rel P KD ρ m a f nb g) {op:BinOp} {t:TypeId} {cx cy:Bool} {x y:A} {rs:List (A×SS×AF)} (hr:ZSe P a op t x y=some rs):
 ∃w,ZmJ P op t cx cy (x.den ρ m) (y.den ρ m)=some w∧∃r∈rs,ZGK P KD ρ m a f nb g {v:=w} r:=by
 unfold ZSe at hr
 split at hr
 ·rename_i kx ky hkx hky
  have tx:=ZMt h hkx
  have ty:=ZMt h hky
  split at hr
  ·rename_i i j hi hj
   split at hr
   ·rename_i hij
    subst hij
    obtain⟨p,hp,wp⟩:=tx.ik hi
    obtain⟨q,hq,wq⟩:=ty.ik hj
    rw[hp,hq]
    exact Z0u h hp hq wp wq hr
   ·cases hr
  ·cases hb:isStr kx && isStr ky with
   |true=>
    rw[hb] at hr
    rw[Bool.and_eq_true] at hb
    obtain⟨p,hp⟩:=tx.isStr hb.1
    obtain⟨q,hq⟩:=ty.isStr hb.2
    rw[hp,hq]
    exact Z2B h hp hq hr
   |false=>
    rw[hb] at hr
    simp only[cond_false] at hr
    have bools:∀{op:BinOp},op=.eql∨op=.neq→und P t=.bool→kx=.bool→ky=.bool→ZMW true a op x y=some rs→∃w,ZmJ P op t cx cy (x.den ρ m) (y.den ρ m)=some w∧∃r∈rs,ZGK P KD ρ m a f nb g {v:=w} r:=by
     intro op hop hu hk1 hk2 hr2
     subst hk1 hk2
     generalize hxv:x.den ρ m=xv at tx
     generalize hyv:y.den ρ m=yv at ty
     cases tx with
     |bool=>
      rename_i p
      cases ty with
      |bool=>
       rename_i q
       have he:eqV P 100 t (.bool p) (.bool q)=some (p==q):=by
        unfold eqV
        rw[hu]
       obtain⟨c,hc,hk⟩:=ZRK h hr2
       rcases hop with rfl|rfl
       ·cases hc
        refine⟨.bool (p==q),?_,hk _ (fun e=> ?_) fun _ _ e=> by rw[hxv,hyv,eq_of_beq e]⟩
        ·show(if true=true then (eqV P 100 t (.bool p) (.bool q)).map V.bool else none)=_
         rw[he];rfl
        ·rw[hxv,hyv] at e
         cases e;simp
       ·cases hc
        refine⟨.bool !(p==q),?_,hk _ (fun e=> ?_) fun _ _ e=> by rw[hxv,hyv,eq_of_beq (show(p==q)=true by simpa using e)]⟩
        ·show(if true=true then (eqV P 100 t (.bool p) (.bool q)).map (fun b=> V.bool !b) else none)=_
         rw[he];rfl
        ·rw[hxv,hyv] at e
         cases e;simp
    split at hr
    ·rename_i hu _;exact bools (Or.inl rfl) hu rfl rfl hr
    ·rename_i hu _;exact bools (Or.inr rfl) hu rfl rfl hr
    ·cases hr
 ·cases hr
theorem ZZB (h:Rel P KD ρ m a f nb g) {op:BinOp} {t:TypeId} {cx cy:Bool} {x y:A} {rs:List (A×SS×AF)} (hr:ZSd P a op t cx cy x y=some rs):
 ∃w,ZmJ P op t cx cy (x.den ρ m) (y.den ρ m)=some w∧∃r∈rs,ZGK P KD ρ m a f nb g {v:=w} r:=by
 unfold ZSd at hr
 split at hr
 ·rename_i u v
  split at hr
  ·rename_i w hw
   exact⟨w,hw,ZKv h hr rfl⟩
  ·cases hr
 ·exact Z2C h hr
 ·exact ZZC h hr
end
end
end
end Go.Ae
end
