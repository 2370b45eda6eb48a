/- Terms, equations in plain Lean; kinds, contracts. -/
import Derived.Test.YtapdblnejhijnaaGreatY5
import Derived.Test.YtapdblnejhijnaaGreatProg
import Derived.KernelRfl
set_option linter.all false
noncomputable section
namespace Go.Proofs.YtapdblnejhijnaaGreat.Eq
section
open Go Go.Ae
section
mutual
def dn:V→V
 |.vs cs n _ _=> cond (Nat.beq n 0) .nils (.vs (dns cs) n 0 .lock)
 |.ze=> .nils
 |.agg cs=> .agg (dns cs)
 |.tup cs=> .tup (dns cs)
 |v=> v
def dns:List V→List V
 |[]=> []
 |v::l=> dn v::dns l
end
theorem ZLx:∀l:List V,dns l=l.map dn
 |[]=> rfl
 |v::l=> by show dn v::dns l=_;rw[ZLx l];rfl
theorem ZSp (v:V):dn (ZEY v)=dn v:=by cases v <;> rfl
theorem ZKt (l:List V):dns (l.map ZEY)=dns l:=by
 rw[ZLx,ZLx,List.map_map]
 exact List.map_congr_left fun v _=> ZSp v
theorem ZP1 (v:V):dn (ZKp v)=dn v:=by
 cases v with
 |agg cs=> show V.agg (dns (cs.map ZEY))=V.agg (dns cs);rw[ZKt]
 |_=> rfl
theorem ZMG (v:V):dn (ZFf v)=dn v:=by
 cases v with
 |tup cs=>
  show V.tup (dns (cs.map ZKp))=V.tup (dns cs)
  rw[ZLx,ZLx,List.map_map]
  exact congrArg V.tup (List.map_congr_left fun v _=> ZP1 v)
 |agg cs=> exact ZP1 (.agg cs)
 |_=> rfl
def ZEZ:List V→Prop:=fun l=> ∃a b r,l=[a,b,.bool r]∧(r=true↔dn a=dn b)
def ZEk:List V→Prop:=fun l=> ∃a b f r,l=[a,b,f,.bool r]∧(r=true↔dn a=dn b)
def ZKC (sz:Nat):List V→Prop:=fun l=> ∃a b,∃i:Nat,l=[a,b,.int .i64 i]∧dns ((slC a).take (i * sz))=dns ((slC b).take (i * sz))
def ZLA (c sz:Nat):List V→Prop:=fun l=> ∃a b,∃i:Nat,l=[.agg a,.agg b,.int .i64 i]∧dns ((slC (a.getD c ZmM)).take (i * sz))=dns ((slC (b.getD c ZmM)).take (i * sz))
theorem eqE {c:Bool} {u v w:V} (h:eqQ c [u,v,w]):∃b,w=.bool b∧(b=c↔u=v):=by
 obtain⟨u',v',b,h1,h2⟩:=h
 simp only[List.cons.injEq,and_true] at h1
 obtain⟨rfl,rfl,rfl⟩:=h1
 exact⟨b,rfl,h2⟩
theorem eqT {c:Bool} {u v w:V} {b:Bool} (h:eqQ c [u,v,w]) (hb:w=.bool b):b=c↔u=v:=by
 obtain⟨b',h1,h2⟩:=eqE h
 rw[hb] at h1
 cases h1
 exact h2
theorem ZOD {v:V} {b:Bool} (h:ZFf v=.bool b):v=.bool b:=by cases v <;> first|exact h|cases h
theorem ZMX {a b w:V} (h:ZEZ (vns [a,b,w])):∃r,w=.bool r∧(r=true↔dn a=dn b):=by
 obtain⟨a',b',r,h1,h2⟩:=h
 simp only[vns,List.map_cons,List.map_nil,List.cons.injEq,and_true] at h1
 obtain⟨rfl,rfl,h1⟩:=h1
 rw[ZMG,ZMG] at h2
 exact⟨r,ZOD h1,h2⟩
theorem ZPC {a b:V} {r:Bool} (h:r=true↔dn a=dn b):ZEZ (vns [a,b,.bool r]):=
 ⟨ZFf a,ZFf b,r,rfl,by rw[ZMG,ZMG];exact h⟩
theorem ZTL {a b f w:V} (h:ZEk (vns [a,b,f,w])):∃r,w=.bool r∧(r=true↔dn a=dn b):=by
 obtain⟨a',b',f',r,h1,h2⟩:=h
 simp only[vns,List.map_cons,List.map_nil,List.cons.injEq,and_true] at h1
 obtain⟨rfl,rfl, -,h1⟩:=h1
 rw[ZMG,ZMG] at h2
 exact⟨r,ZOD h1,h2⟩
theorem ZYl {a b f:V} {r:Bool} (h:r=true↔dn a=dn b):ZEk (vns [a,b,f,.bool r]):=
 ⟨ZFf a,ZFf b,ZFf f,r,rfl,by rw[ZMG,ZMG];exact h⟩
theorem dns_append (a b:List V):dns (a++b)=dns a++dns b:=by rw[ZLx,ZLx,ZLx,List.map_append]
theorem ZSr (n:Nat) (a:List V):dns (a.drop n)=(dns a).drop n:=by rw[ZLx,ZLx,List.map_drop]
theorem ZVr (n:Nat) (a:List V):dns (a.take n)=(dns a).take n:=by rw[ZLx,ZLx,List.map_take]
theorem dns_len (a:List V):(dns a).length=a.length:=by rw[ZLx,List.length_map]
section
variable {P:Program} {KD:TypeId→Bool→List K} {e:TypeId} {rf:Bool} {mx:Nat}
theorem ZLu {v:V} (h:TK P KD (.sl e rf mx) v):dn v=cond (Nat.beq (V.lenN v) 0) .nils (.vs (dns (slC v)) (V.lenN v) 0 .lock)∧(slC v).length=V.lenN v * (KD e rf).length:=by
 cases h with
 |nils=> exact⟨rfl,by simp[slC,V.lenN]⟩
 |ze=> exact⟨rfl,by simp[slC,V.lenN]⟩
 |vs hz hn hm hp hc=> exact⟨rfl,hc.len⟩
theorem ZSq {a b:V} {rf':Bool} {mx':Nat} (ha:TK P KD (.sl e rf mx) a) (hb:TK P KD (.sl e rf' mx') b):dn a=dn b↔V.lenN a=V.lenN b∧dns (slC a)=dns (slC b):=by
 obtain⟨a1,a2⟩:=ZLu ha
 obtain⟨b1,b2⟩:=ZLu hb
 rw[a1,b1]
 cases hA:Nat.beq (V.lenN a) 0 with
 |true=>
  have hA:=Nat.eq_of_beq_eq_true hA
  have sa:slC a=[]:=List.length_eq_zero_iff.1 (by rw[a2,hA,Nat.zero_mul])
  cases hB:Nat.beq (V.lenN b) 0 with
  |true=>
   have hB:=Nat.eq_of_beq_eq_true hB
   have sb:slC b=[]:=List.length_eq_zero_iff.1 (by rw[b2,hB,Nat.zero_mul])
   rw[sa,sb,hA,hB]
   simp
  |false=>
   refine⟨fun h=> (by cases h),fun h=> ?_⟩
   rw[←h.1,hA] at hB;cases hB
 |false=>
  cases hB:Nat.beq (V.lenN b) 0 with
  |true=>
   refine⟨fun h=> (by cases h),fun h=> ?_⟩
   rw[h.1,hB] at hA;cases hA
  |false=>
   simp only[cond_false,V.vs.injEq,and_true]
   exact⟨fun h=> ⟨h.2,h.1⟩,fun h=> ⟨h.2,h.1⟩⟩
theorem ZNc {v:V} {vs rest:List V} {i:Int} (hk:TK P KD (.sl e rf mx) v) (hv:∃(cs:List V) (len sz:Nat) (o:Own) (N:Nat),v=.vs cs len sz o∧(N:Int)=i∧N < len∧cs.drop (N * sz)=vs++rest) (hl:vs.length=(KD e rf).length):
 ∃N:Nat,(N:Int)=i∧N < V.lenN v∧(slC v).take ((N+1) * (KD e rf).length)=(slC v).take (N * (KD e rf).length)++vs∧(slC v).drop (N * (KD e rf).length)=vs++rest:=by
 obtain⟨cs,len,sz,o,N,rfl,h2,h3,h4⟩:=hv
 cases hk with
 |vs hz hn hm hp hc=>
  rw[←hz] at h4
  refine⟨N,h2,h3,?_,h4⟩
  show cs.take ((N+1) * _)=cs.take (N * _)++vs
  rw[Nat.succ_mul,List.take_add,h4,←hl,List.take_left]
theorem ZOL {a b w:V} {rf':Bool} {mx':Nat} (ha:TK P KD (.sl e rf mx) a) (hb:TK P KD (.sl e rf' mx') b) (h:eqQ false [.int .i64 (V.lenN a),.int .i64 (V.lenN b),w]) (hw:w=.bool true):¬dn a=dn b:=by
 intro hd
 have h1:=((ZSq ha hb).1 hd).1
 have:=(eqT h hw).2 (by rw[h1])
 cases this
theorem Z25 {a b:V} {rf':Bool} {mx' i:Nat} (ha:TK P KD (.sl e rf mx) a) (hb:TK P KD (.sl e rf' mx') b) (hl:V.lenN a=V.lenN b) (hi:V.lenN a≤i) (hL:(KD e rf').length=(KD e rf).length) (h:dns ((slC a).take (i * (KD e rf).length))=dns ((slC b).take (i * (KD e rf).length))):dn a=dn b:=by
 refine(ZSq ha hb).2 ⟨hl,?_⟩
 have ta:∀{n:Nat},n≤i→n * (KD e rf).length≤i * (KD e rf).length:=fun hh=> Nat.mul_le_mul_right _ hh
 rw[List.take_of_length_le (by rw[(ZLu ha).2];exact ta hi),List.take_of_length_le (by rw[(ZLu hb).2,hL];exact ta (hl ▸ hi))] at h
 exact h
theorem Z26 {a b:V} {i:Nat} {va vb:List V} {N:Nat} {L:Nat} (h:dns ((slC a).take (i * L))=dns ((slC b).take (i * L))) (ea:(slC a).take ((N+1) * L)=(slC a).take (N * L)++va) (eb:(slC b).take ((N+1) * L)=(slC b).take (N * L)++vb) (hN:N=i) (hd:dns va=dns vb):dns ((slC a).take ((i+1) * L))=dns ((slC b).take ((i+1) * L)):=by
 subst hN
 rw[ea,eb,dns_append,dns_append,h,hd]
theorem Z24 {a b:V} {rf':Bool} {mx':Nat} {va vb ra rb:List V} {N L:Nat} (ha:TK P KD (.sl e rf mx) a) (hb:TK P KD (.sl e rf' mx') b) (ea:(slC a).drop (N * L)=va++ra) (eb:(slC b).drop (N * L)=vb++rb) (hl:va.length=vb.length) (hd:¬dns va=dns vb):¬dn a=dn b:=by
 intro h
 have h1:=((ZSq ha hb).1 h).2
 have h2:dns ((slC a).drop (N * L))=dns ((slC b).drop (N * L)):=by rw[ZSr,ZSr,h1]
 rw[ea,eb,dns_append,dns_append] at h2
 exact hd (List.append_inj h2 (by rw[dns_len,dns_len,hl])).1
theorem ZKA {k:IntKind} {v:V} (h:TK P KD (.int k) v):dn v=v:=by cases h;rfl
theorem ZMk {n:Nat} {v:V} (h:TK P KD (.str n) v):dn v=v:=by cases h;rfl
theorem ZMi {v:V} (h:TK P KD .idx v):∃n:Nat,v=.int .i64 n∧V.intN v=n:=by cases h with|idx h=> exact⟨_,rfl,rfl⟩
end
theorem ZK5 {a b:V} (h:¬dn a=dn b):ZEZ (vns [a,b,.bool false]):=ZPC ⟨fun hh=> (by cases hh),fun hh=> absurd hh h⟩
theorem ZRM {a b:V} (h:dn a=dn b):ZEZ (vns [a,b,.bool true]):=ZPC ⟨fun _=> h,fun _=> rfl⟩
theorem ZRL {a b f:V} (h:¬dn a=dn b):ZEk (vns [a,b,f,.bool false]):=ZYl ⟨fun hh=> (by cases hh),fun hh=> absurd hh h⟩
theorem ZYm {a b f:V} (h:dn a=dn b):ZEk (vns [a,b,f,.bool true]):=ZYl ⟨fun _=> h,fun _=> rfl⟩
theorem ZLD {a b w:V} (h:ZEZ (vns [a,b,w])) (hw:w=.bool true):dn a=dn b:=by
 obtain⟨r,h1,h2⟩:=ZMX h
 rw[hw] at h1
 cases h1
 exact h2.1 rfl
theorem ZLE {a b w:V} (h:ZEZ (vns [a,b,w])) (hw:w=.bool false):¬dn a=dn b:=by
 obtain⟨r,h1,h2⟩:=ZMX h
 rw[hw] at h1
 cases h1
 exact fun hh=> (by cases h2.2 hh)
theorem ZLo {a b:List V} (h:dn (.agg a)=dn (.agg b)):dns a=dns b:=by injection h
theorem ZQn {sz:Nat} {a b:V}:ZKC sz [a,b,.int .i64 0]:=⟨a,b,0,rfl,by rw[Nat.zero_mul];rfl⟩
theorem ZWV {c sz:Nat} {a b:List V}:ZLA c sz [.agg a,.agg b,.int .i64 0]:=⟨a,b,0,rfl,by rw[Nat.zero_mul];rfl⟩
theorem ZS0 {sz:Nat} {a b w:V} (h:ZKC sz [a,b,w]):∃i:Nat,w=.int .i64 i∧dns ((slC a).take (i * sz))=dns ((slC b).take (i * sz)):=by
 obtain⟨a',b',i,h1,h2⟩:=h
 simp only[List.cons.injEq,and_true] at h1
 obtain⟨rfl,rfl,rfl⟩:=h1
 exact⟨i,rfl,h2⟩
theorem ZQm {c sz:Nat} {a b:List V} {w:V} (h:ZLA c sz [.agg a,.agg b,w]):ZKC sz [a.getD c ZmM,b.getD c ZmM,w]:=by
 obtain⟨a',b',i,h1,h2⟩:=h
 simp only[List.cons.injEq,V.agg.injEq,and_true] at h1
 obtain⟨rfl,rfl,rfl⟩:=h1
 exact⟨_,_,i,rfl,h2⟩
theorem ZWW {c sz:Nat} {a b:List V} {w:V} (h:ZKC sz [a.getD c ZmM,b.getD c ZmM,w]):ZLA c sz [.agg a,.agg b,w]:=by
 obtain⟨i,rfl,h2⟩:=ZS0 h
 exact⟨a,b,i,rfl,h2⟩
def ZKU (v:V) (i:Int) (vs:List V) (rest:List V):Prop:=∃(cs:List V) (len sz:Nat) (o:Own) (N:Nat),v=.vs cs len sz o∧(N:Int)=i∧N < len∧cs.drop (N * sz)=vs++rest
section
variable {P:Program} {KD:TypeId→Bool→List K} {e:TypeId} {rf:Bool} {mx:Nat}
theorem ZOJ {a b w w':V} {rf':Bool} {mx':Nat} {va vb ra rb:List V} (ka:TK P KD (.sl e rf mx) a) (kb:TK P KD (.sl e rf' mx') b) (inv:ZKC (KD e rf).length [a,b,w]) (ea:ZKU a (V.intN w+0) va ra) (eb:ZKU b (V.intN w+0) vb rb)
 (hl:va.length=(KD e rf).length) (hl':vb.length=(KD e rf').length) (hL:(KD e rf').length=(KD e rf).length) (hd:dns va=dns vb) (kw:TK P KD .idx w') (c1:V.intN w' - V.intN w≤1) (c2:V.intN w - V.intN w'≤ -1):ZKC (KD e rf).length [a,b,w']:=by
 obtain⟨i,rfl,hi⟩:=ZS0 inv
 obtain⟨N,n1,n2,n3,n4⟩:=ZNc ka ea hl
 obtain⟨N',m1,m2,m3,m4⟩:=ZNc kb eb hl'
 have e1:N=i:=by simp only[V.intN] at n1;omega
 have e2:N'=i:=by simp only[V.intN] at m1;omega
 subst e1
 subst e2
 rw[hL] at m3
 obtain⟨j,rfl,hj⟩:=ZMi kw
 have e3:j=N'+1:=by simp only[V.intN] at c1 c2;omega
 subst e3
 exact⟨a,b,N'+1,rfl,Z26 hi n3 m3 rfl hd⟩
theorem ZOM {a b:V} {x:Int} {rf':Bool} {mx':Nat} {va vb ra rb:List V} (ka:TK P KD (.sl e rf mx) a) (kb:TK P KD (.sl e rf' mx') b) (ea:ZKU a x va ra) (eb:ZKU b x vb rb)
 (hl:va.length=(KD e rf).length) (hl':vb.length=(KD e rf').length) (hL:(KD e rf').length=(KD e rf).length) (hd:¬dns va=dns vb):¬dn a=dn b:=by
 obtain⟨N,n1,n2,n3,n4⟩:=ZNc ka ea hl
 obtain⟨N',m1,m2,m3,m4⟩:=ZNc kb eb hl'
 have e2:N'=N:=by omega
 subst e2
 rw[hL] at m4
 exact Z24 ka kb n4 m4 (by rw[hl,hl',hL]) hd
theorem ZOK {a b w:V} {rf':Bool} {mx':Nat} (ka:TK P KD (.sl e rf mx) a) (kb:TK P KD (.sl e rf' mx') b) (hL:(KD e rf').length=(KD e rf).length) (c1:((V.lenN b:Nat):Int) - (V.lenN a:Nat)≤0) (c2:((V.lenN a:Nat):Int) - (V.lenN b:Nat)≤0) (inv:ZKC (KD e rf).length [a,b,w]) (c3:((V.lenN a:Nat):Int) - V.intN w≤0):dn a=dn b:=by
 obtain⟨i,rfl,hi⟩:=ZS0 inv
 exact Z25 (i:=i) ka kb (by omega) (by simp only[V.intN] at c3;omega) hL hi
end
theorem neF {u v w:V} (h:eqQ false [u,v,w]) (hw:w=.bool false):u=v:=(eqT h hw).1 rfl
theorem neT {u v w:V} (h:eqQ false [u,v,w]) (hw:w=.bool true):¬u=v:=fun hh=> (by cases(eqT h hw).2 hh)
theorem eqY {u v w:V} (h:eqQ true [u,v,w]) (hw:w=.bool true):u=v:=(eqT h hw).1 rfl
theorem eqN {u v w:V} (h:eqQ true [u,v,w]) (hw:w=.bool false):¬u=v:=fun hh=> (by cases(eqT h hw).2 hh)
theorem ZN9 {a b c d:V}:dn (.agg [a,b])=dn (.agg [c,d])↔dn a=dn c∧dn b=dn d:=by
 show V.agg [dn a,dn b]=V.agg [dn c,dn d]↔_
 simp
theorem ZLw {a b c d e a' b' c' d' e':V}:dn (.agg [a,b,c,d,e])=dn (.agg [a',b',c',d',e'])↔dn a=dn a'∧dn b=dn b'∧dn c=dn c'∧dn d=dn d'∧dn e=dn e':=by
 show V.agg [dn a,dn b,dn c,dn d,dn e]=V.agg [dn a',dn b',dn c',dn d',dn e']↔_
 simp
theorem Z2q {a b f w:V} (h:ZEk (vns [a,b,f,w])) (hw:w=.bool true):dn a=dn b:=by
 obtain⟨r,h1,h2⟩:=ZTL h
 rw[hw] at h1
 cases h1
 exact h2.1 rfl
theorem Z2r {a b f w:V} (h:ZEk (vns [a,b,f,w])) (hw:w=.bool false):¬dn a=dn b:=by
 obtain⟨r,h1,h2⟩:=ZTL h
 rw[hw] at h1
 cases h1
 exact fun hh=> (by cases h2.2 hh)
def ZML (k:Int) (t a b:List V):Prop:=∃i n l,t=[.int .i64 k,i,n,l,.vs (a++b) 2 0 .lock]∧a.length=5∧b.length=5
inductive AllR:List V→List V→List V→Prop
 |stop {t:List V} (h:∀a b,¬ZML 6 t a b):AllR t [] t
 |step {t a b tel s:List V} (h:ZML 6 t a b) (ht:AllR b tel s):AllR t (a++tel) s
inductive SpR:List V→List V→List V→Prop
 |stop {t:List V} (h:∀a b,¬ZML 4 t a b):SpR t t []
 |step {t a b h ar:List V} (h1:ZML 4 t a b) (ht:SpR a h ar):SpR t h (ar++b)
def mkT (k:Int) (a b:List V):List V:=[.int .i64 k,.int .i64 0,.str ⟨#[]⟩,.nils,.vs (a++b) 2 0 .lock]
inductive AppR:List V→List V→List V→Prop
 |nil {f:List V}:AppR f [] f
 |cons {f a ar r:List V} (ha:a.length=5) (h:AppR (mkT 4 f a) ar r):AppR f (a++ar) r
inductive BindR (k:Int):List V→List V→List V→Prop
 |nil {t:List V}:BindR k [] t t
 |snoc {a ar t r:List V} (ha:a.length=5) (h:BindR k ar (mkT k a t) r):BindR k (ar++a) t r
def ZKE:List V→Prop:=fun l=> ∃t tel s,l=[.agg t,.tup [tel,.agg s]]∧AllR (dns t) (dns (slC tel)) (dns s)
def spP:List V→Prop:=fun l=> ∃t h ar,l=[.agg t,.tup [.agg h,ar]]∧SpR (dns t) (dns h) (dns (slC ar))
def ZL0:List V→Prop:=fun l=> ∃f ar r,l=[.agg f,ar,.agg r]∧AppR (dns f) (dns (slC ar)) (dns r)
def ZOc:List V→Prop:=fun l=> ∃k ar t r,l=[.int .i64 k,ar,.agg t,.agg r]∧BindR k (dns (slC ar)) (dns t) (dns r)
def ZLq:List V→Prop:=fun l=> ∃t tel c,l=[.agg t,tel,.agg c]∧∀ar s,AllR (dns c) ar s→AllR (dns t) (dns (slC tel)++ar) s
def ZLJ:List V→Prop:=fun l=> ∃f ar c,∃i:Nat,l=[.agg f,ar,.int .i64 i,.agg c]∧∀r,AppR (dns c) (dns ((slC ar).drop (i * 5))) r→AppR (dns f) (dns (slC ar)) r
def ZNk:List V→Prop:=fun l=> ∃k ar t c,∃i:Nat,l=[.int .i64 k,ar,.agg t,.int .i64 ((i:Int) - 1),.agg c]∧∀r,BindR k (dns ((slC ar).take (i * 5))) (dns c) r→BindR k (dns (slC ar)) (dns t) r
theorem Z2u (v:V):slC (ZEY v)=slC v:=by cases v <;> rfl
theorem ZRP (v:V):slC (ZKp v)=slC v:=by
 cases v with
 |vs cs n sz o=> rfl
 |_=> rfl
theorem ZPJ {t s:List V} {tel:V} (h:AllR (dns t) (dns (slC tel)) (dns s)):ZKE (vns [.agg t,.tup [tel,.agg s]]):=
 ⟨t.map ZEY,ZKp tel,s.map ZEY,rfl,by rw[ZKt,ZRP,ZKt];exact h⟩
theorem ZKP {t s:List V} {tel:V} (h:ZKE (vns [.agg t,.tup [tel,.agg s]])):AllR (dns t) (dns (slC tel)) (dns s):=by
 obtain⟨t',tel',s',h1,h2⟩:=h
 have h1:[V.agg (t.map ZEY),.tup [ZKp tel,.agg (s.map ZEY)]]=_:=h1
 simp only[List.cons.injEq,V.agg.injEq,V.tup.injEq,and_true] at h1
 obtain⟨rfl,rfl,rfl⟩:=h1
 rwa [ZKt,ZRP,ZKt] at h2
theorem spI {t s:List V} {ar:V} (h:SpR (dns t) (dns s) (dns (slC ar))):spP (vns [.agg t,.tup [.agg s,ar]]):=
 ⟨t.map ZEY,s.map ZEY,ZKp ar,rfl,by rw[ZKt,ZRP,ZKt];exact h⟩
theorem spE {t s:List V} {ar:V} (h:spP (vns [.agg t,.tup [.agg s,ar]])):SpR (dns t) (dns s) (dns (slC ar)):=by
 obtain⟨t',s',ar',h1,h2⟩:=h
 have h1:[V.agg (t.map ZEY),.tup [.agg (s.map ZEY),ZKp ar]]=_:=h1
 simp only[List.cons.injEq,V.agg.injEq,V.tup.injEq,and_true] at h1
 obtain⟨rfl,rfl,rfl⟩:=h1
 rwa [ZKt,ZRP,ZKt] at h2
theorem ZN0 {v:V} (h:∀l,v≠.tup l):slC (ZFf v)=slC v:=by
 cases v with
 |tup l=> exact absurd rfl (h l)
 |vs cs n sz o=> rfl
 |_=> rfl
theorem ZU1 {f r:List V} {ar:V} (hs:∀l,ar≠.tup l) (h:AppR (dns f) (dns (slC ar)) (dns r)):ZL0 (vns [.agg f,ar,.agg r]):=
 ⟨f.map ZEY,ZFf ar,r.map ZEY,rfl,by rw[ZKt,ZN0 hs,ZKt];exact h⟩
theorem ZPL {f r:List V} {ar:V} (hs:∀l,ar≠.tup l) (h:ZL0 (vns [.agg f,ar,.agg r])):AppR (dns f) (dns (slC ar)) (dns r):=by
 obtain⟨f',ar',r',h1,h2⟩:=h
 have h1:[V.agg (f.map ZEY),ZFf ar,.agg (r.map ZEY)]=_:=h1
 simp only[List.cons.injEq,V.agg.injEq,and_true] at h1
 obtain⟨rfl,rfl,rfl⟩:=h1
 rwa [ZKt,ZN0 hs,ZKt] at h2
theorem ZZD {k:Int} {t r:List V} {ar:V} (hs:∀l,ar≠.tup l) (h:BindR k (dns (slC ar)) (dns t) (dns r)):ZOc (vns [.int .i64 k,ar,.agg t,.agg r]):=
 ⟨k,ZFf ar,t.map ZEY,r.map ZEY,rfl,by rw[ZKt,ZN0 hs,ZKt];exact h⟩
theorem ZVb {k:Int} {t r:List V} {ar:V} (hs:∀l,ar≠.tup l) (h:ZOc (vns [.int .i64 k,ar,.agg t,.agg r])):BindR k (dns (slC ar)) (dns t) (dns r):=by
 obtain⟨k',ar',t',r',h1,h2⟩:=h
 have h1:[V.int .i64 k,ZFf ar,.agg (t.map ZEY),.agg (r.map ZEY)]=_:=h1
 simp only[List.cons.injEq,V.agg.injEq,V.int.injEq,true_and,and_true] at h1
 obtain⟨rfl,rfl,rfl,rfl⟩:=h1
 rwa [ZKt,ZN0 hs,ZKt] at h2
section
variable {P:Program} {KD:TypeId→Bool→List K} {e:TypeId} {rf:Bool} {mx:Nat}
theorem ZMb {k:K} {v:V} (h:TK P KD k v):∀l,v≠.tup l:=by intro l hh;subst hh;cases h
theorem ZKM {k:K} {v:V} (h:TK P KD k v):dn (V.shut v)=dn v:=by
 cases h <;> first|rfl|skip
 rename_i o _ _ _ _ _
 cases o <;> rfl
theorem ZVq {ks:List K} {vs:List V} (h:TKs P KD ks vs):dns (V.seals vs)=dns vs:=by
 induction ks generalizing vs with
 |nil=> cases h;rfl
 |cons k ks ih=> cases h with|cons h ht=> show dn (V.shut _)::dns (V.seals _)=_;rw[ZKM h,ih ht];rfl
theorem ZR8 {sz sz':Nat} {ks:List K} {u w:V} {xs:List V} (h:ZLG sz [u,.vs (V.seals xs) 1 sz' .tight,w]) (hk:TKs P KD ks xs):dns (slC w)=dns (slC u)++dns xs∧V.lenN w=V.lenN u+1:=by
 obtain⟨u',v',o,h1⟩:=h
 simp only[List.cons.injEq,and_true] at h1
 obtain⟨rfl,rfl,rfl⟩:=h1
 refine⟨?_,rfl⟩
 show dns (slC u++V.seals xs)=_
 rw[dns_append,ZVq hk]
theorem ZUP {v:V} {va vb ra rb:List V} (hk:TK P KD (.sl e rf mx) v) (hl:V.lenN v=2) (ea:ZKU v 0 va ra) (eb:ZKU v 1 vb rb) (la:va.length=(KD e rf).length) (lb:vb.length=(KD e rf).length):
 slC v=va++vb∧dn v=.vs (dns va++dns vb) 2 0 .lock:=by
 obtain⟨N,n1,n2,n3,n4⟩:=ZNc hk ea la
 obtain⟨M,m1,m2,m3,m4⟩:=ZNc hk eb lb
 have e1:N=0:=by omega
 have e2:M=1:=by omega
 subst e1
 subst e2
 obtain⟨s1,s2⟩:=ZLu hk
 rw[hl] at s1 s2
 have h:slC v=va++vb:=by
  rw[Nat.zero_mul,List.take_zero,List.nil_append] at n3
  have:(slC v).take ((1+1) * (KD e rf).length)=slC v:=List.take_of_length_le (by rw[s2];exact Nat.le_refl _)
  rw[←this,m3,n3]
 refine⟨h,?_⟩
 rw[s1,h,dns_append];rfl
theorem ZNb {v:V} {i:IntKind} {n:Int} (h:dn v=.int i n):v=.int i n:=by
 cases v with
 |vs cs m sz o=>
  have h:cond (Nat.beq m 0) V.nils (.vs (dns cs) m 0 .lock)=.int i n:=h
  cases hb:Nat.beq m 0 <;> rw[hb] at h <;> cases h
 |_=> first|exact h|cases h
theorem not_two {k:Int} {t0 t1 t2 t3 t4:V} {rf':Bool} (hk:TK P KD (.sl e rf' mx) t4) (h:(∀n,t0=.int .i64 n→n≠k)∨V.lenN t4≠2):∀a b,¬ZML k (dns [t0,t1,t2,t3,t4]) a b:=by
 rintro a b ⟨i,n,l,h1, -, -⟩
 have h1:[dn t0,dn t1,dn t2,dn t3,dn t4]=_:=h1
 simp only[List.cons.injEq,and_true] at h1
 rcases h with h|h
 ·have h0:=h1.1
  have:t0=.int .i64 k:=ZNb h0
  exact h k this rfl
 ·have h4:=h1.2.2.2.2
  rw[(ZLu hk).1] at h4
  cases hb:Nat.beq (V.lenN t4) 0 with
  |true=> rw[hb] at h4;cases h4
  |false=>
   rw[hb] at h4
   injection h4 with _ h5
   exact h h5
theorem ZLm {v:V} {n:Nat} (h:V.int .i64 (V.lenN v:Nat)=.int .i64 (n:Nat)):V.lenN v=n:=by
 injection h with _ h
 omega
end
theorem ZWS {t:List V}:ZLq [.agg t,.nils,.agg t]:=⟨t,.nils,t,rfl,fun _ _ h=> h⟩
theorem ZOr {t c:List V} {tel:V} (h:ZLq [.agg t,tel,.agg c]):∀ar s,AllR (dns c) ar s→AllR (dns t) (dns (slC tel)++ar) s:=by
 obtain⟨t',tel',c',h1,h2⟩:=h
 simp only[List.cons.injEq,V.agg.injEq,and_true] at h1
 obtain⟨rfl,rfl,rfl⟩:=h1
 exact h2
theorem ZQp {f c:List V} {ar w:V} (h:ZLJ [.agg f,ar,w,.agg c]):∃i:Nat,w=.int .i64 i∧∀r,AppR (dns c) (dns ((slC ar).drop (i * 5))) r→AppR (dns f) (dns (slC ar)) r:=by
 obtain⟨f',ar',c',i,h1,h2⟩:=h
 simp only[List.cons.injEq,V.agg.injEq,and_true] at h1
 obtain⟨rfl,rfl,rfl,rfl⟩:=h1
 exact⟨i,rfl,h2⟩
theorem ZW1 {f:List V} {ar:V}:ZLJ [.agg f,ar,.int .i64 0,.agg f]:=⟨f,ar,f,0,rfl,fun r h=> by rwa [Nat.zero_mul,List.drop_zero] at h⟩
theorem ZWT {c t:List V} {k ar w:V} (h:ZNk [k,ar,.agg t,w,.agg c]):∃k':Int,∃i:Nat,k=.int .i64 k'∧w=.int .i64 ((i:Int) - 1)∧∀r,BindR k' (dns ((slC ar).take (i * 5))) (dns c) r→BindR k' (dns (slC ar)) (dns t) r:=by
 obtain⟨k',ar',t',c',i,h1,h2⟩:=h
 simp only[List.cons.injEq,V.agg.injEq,and_true] at h1
 obtain⟨rfl,rfl,rfl,rfl,rfl⟩:=h1
 exact⟨k',i,rfl,rfl,h2⟩
section
variable {P:Program} {KD:TypeId→Bool→List K} {e:TypeId} {rf:Bool} {mx:Nat}
theorem ZVp {ks:List K} {k:Int} {a b:List V} {sz:Nat} (hk:TKs P KD ks (a++b)):dns [.int .i64 k,.int .i64 0,.str ⟨#[]⟩,.nils,.vs (V.seals (a++b)) 2 sz .tight]=mkT k (dns a) (dns b):=by
 show[_,_,_,_,V.vs (dns (V.seals (a++b))) 2 0 .lock]=[_,_,_,_,V.vs (dns a++dns b) 2 0 .lock]
 rw[ZVq hk,dns_append]
 rfl
theorem ZL2 {v:V} {va ra:List V} {i:Int} (hk:TK P KD (.sl e rf mx) v) (ea:ZKU v i va ra) (la:va.length=(KD e rf).length):
 ∃N:Nat,(N:Int)=i∧N < V.lenN v∧(slC v).drop (N * (KD e rf).length)=va++(slC v).drop ((N+1) * (KD e rf).length)∧(slC v).take ((N+1) * (KD e rf).length)=(slC v).take (N * (KD e rf).length)++va:=by
 obtain⟨N,n1,n2,n3,n4⟩:=ZNc hk ea la
 refine⟨N,n1,n2,?_,n3⟩
 have:(slC v).drop ((N+1) * (KD e rf).length)=ra:=by
  rw[Nat.succ_mul,←List.drop_drop,n4,←la,List.drop_left]
 rw[this];exact n4
end
theorem tk_int {P:Program} {KD:TypeId→Bool→List K} {i:IntKind} {v:V} (h:TK P KD (.int i) v):∃n,v=.int i n:=by cases h;exact⟨_,rfl⟩
theorem ZS2 {k:Int} {t0 t1 t2 t3 t4:V} {va vb:List V} (h0:t0=.int .i64 k) (h4:dn t4=.vs (dns va++dns vb) 2 0 .lock) (la:va.length=5) (lb:vb.length=5):ZML k (dns [t0,t1,t2,t3,t4]) (dns va) (dns vb):=by
 subst h0
 refine⟨dn t1,dn t2,dn t3,?_,by rw[dns_len,la],by rw[dns_len,lb]⟩
 show[_,_,_,_,dn t4]=_
 rw[h4];rfl
theorem ZU4 {P:Program} {KD:TypeId→Bool→List K} {ks:List K} {k:Int} {a b c ar r:List V} {sz:Nat} (hk:TKs P KD ks c) (hc:c=a++b) (h:AppR (dns [.int .i64 k,.int .i64 0,.str ⟨#[]⟩,.nils,.vs (V.seals c) 2 sz .tight]) ar r):AppR (mkT k (dns a) (dns b)) ar r:=by
 subst hc
 rwa [ZVp hk] at h
theorem ZZF {P:Program} {KD:TypeId→Bool→List K} {ks:List K} {k k':Int} {a b c ar r:List V} {sz:Nat} (hk:TKs P KD ks c) (hc:c=a++b) (h:BindR k' ar (dns [.int .i64 k,.int .i64 0,.str ⟨#[]⟩,.nils,.vs (V.seals c) 2 sz .tight]) r):BindR k' ar (mkT k (dns a) (dns b)) r:=by
 subst hc
 rwa [ZVp hk] at h
theorem ZWU {k w:Int} {t c:List V} {l:V} (i:Nat) (hw:w=(i:Int) - 1) (h:∀r,BindR k (dns ((slC l).take (i * 5))) (dns c) r→BindR k (dns (slC l)) (dns t) r):ZNk [.int .i64 k,l,.agg t,.int .i64 w,.agg c]:=by
 subst hw
 exact⟨k,l,t,c,i,rfl,h⟩
def cl (d:List V) (c:Nat):V:=ZEY (d.getD c ZmM)
def kd (d:List V):Int:=V.intN (d.getD 0 ZmM)
def ZKB (cs:List V) (sz:Nat):Nat→List V
 |0=> []
 |i+1=> ZKB cs sz i++[cs.getD (i * sz) ZmM]
def ZOE:V→V
 |.str p=> .str (p++⟨#[46,114,101,99]⟩)
 |v=> v
def ZKN (d:List V):List V:=
 if kd d=3 then cl d 1::(ZKB (slC (cl d 14)) 6 (V.lenN (cl d 14))++[ZOE (cl d 1)])
 else if kd d=4 then ZKB (slC (cl d 22)) 15 (V.lenN (cl d 22))
 else if kd d=0∨kd d=1∨kd d=2 then [cl d 1] else []
def ZLn (d:List V) (s:V):Prop:=kd d=3∧s=cl d 1
def ZKV (env:V) (i:Nat):List V:=((slC env).drop (i * 23)).take 23
def ZLk (env s:V) (i:Nat):Prop:=s∈ZKN (ZKV env i)
def ZLv (env s:V) (i:Nat):Prop:=i < V.lenN env∧ZLk env s i∧∀j,j < i→¬ZLk env s j
def ZM4 (env s:V) (d:List V) (b:Prop):Prop:=(b→∃i,ZLv env s i∧ZLn (ZKV env i) s∧dns d=dns (ZKV env i))∧((∃i,ZLv env s i∧ZLn (ZKV env i) s)→b)
def ZMq:List V→Prop:=fun l=> ∃a s r,l=[a,s,.bool r]∧(r=true↔s∈slC a)
def ZOu:List V→Prop:=fun l=> ∃a s,∃i:Nat,l=[a,s,.int .i64 i]∧¬s∈(slC a).take i
def ZLB:List V→Prop:=fun l=> ∃d names,l=[.agg d,names]∧slC names=ZKN d
def ZLU (c sz:Nat):List V→Prop:=fun l=> ∃d names,∃i:Nat,l=[.agg d,.int .i64 i,names]∧slC names=(if c=14 then [cl d 1] else [])++ZKB (slC (cl d c)) sz i
def ZLy:List V→Prop:=fun l=> ∃d i s x,l=[.agg d,i,s,.agg x]∧(kd x=3↔ZLn d s)∧0≤V.intN (x.getD 2 ZmM)
def ZKR:List V→Prop:=fun l=> ∃env s x c,∃i:Nat,l=[env,s,.tup [.agg x,c]]∧ZLv env s i∧V.intN (x.getD 1 ZmM)=i∧(kd x=3↔ZLn (ZKV env i) s)∧0≤V.intN (x.getD 2 ZmM)
def ZNg:List V→Prop:=fun l=> ∃env s x,l=[env,s,x]∧∀i,i < V.lenN env→¬ZLk env s i
def ZKq:List V→Prop:=fun l=> ∃env s,∃i:Nat,l=[env,s,.int .i64 i]∧∀j,j < i→¬ZLk env s j
def ZGQ:List V→Prop:=fun l=> ∃env s d,∃n:Int,∃ok,l=[env,s,.tup [.agg d,.int .i64 n,.bool ok]]∧ZM4 env s d (ok=true∧n= -1)
theorem Z1M (v:V):ZEY (ZEY v)=ZEY v:=by cases v <;> rfl
theorem ZQl (v:V):V.intN (ZEY v)=V.intN v:=by cases v <;> rfl
theorem ZO8 (d:List V) (c:Nat):(d.map ZEY).getD c ZmM=ZEY (d.getD c ZmM):=by
 rw[List.getD_eq_getElem?_getD,List.getD_eq_getElem?_getD,List.getElem?_map]
 cases d[c]? <;> rfl
theorem ZPU (d:List V) (c:Nat):cl (d.map ZEY) c=cl d c:=by unfold cl;rw[ZO8,Z1M]
theorem ZOx (d:List V):kd (d.map ZEY)=kd d:=by unfold kd;rw[ZO8,ZQl]
theorem ZXy (d:List V):ZKN (d.map ZEY)=ZKN d:=by unfold ZKN;rw[ZOx,ZPU,ZPU,ZPU]
theorem ZW2 (d:List V) (s:V):ZLn (d.map ZEY) s↔ZLn d s:=by unfold ZLn;rw[ZOx,ZPU]
theorem ZOz (v:V):V.lenN (ZEY v)=V.lenN v:=by cases v <;> rfl
theorem ZPf (d:List V) (c:Nat):V.intN ((d.map ZEY).getD c ZmM)=V.intN (d.getD c ZmM):=by rw[ZO8,ZQl]
section
variable {P:Program} {KD:TypeId→Bool→List K} {e:TypeId} {rf:Bool} {mx:Nat}
theorem ZMd {n:Nat} {s:V} (h:TK P KD (.str n) s):ZFf s=s:=by cases h;rfl
theorem ZMc {n:Nat} {s:V} (h:TK P KD (.str n) s):ZEY s=s:=by cases h;rfl
theorem ZMz {k:K} {v:V} (h:TK P KD k v):slC (ZFf v)=slC v:=ZN0 (ZMb h)
theorem ZTh {k:K} {v:V} (h:TK P KD k v):V.lenN (ZFf v)=V.lenN v:=by cases h <;> rfl
theorem ZWN {a s:V} {n:Nat} {r:Bool} (ka:TK P KD (.sl e rf mx) a) (ks:TK P KD (.str n) s) (h:r=true↔s∈slC a):ZMq (vns [a,s,.bool r]):=
 ⟨ZFf a,s,r,by show[ZFf a,ZFf s,_]=_;rw[ZMd ks];rfl,by rw[ZMz ka];exact h⟩
theorem ZWM {a s w:V} {n:Nat} (ka:TK P KD (.sl e rf mx) a) (ks:TK P KD (.str n) s) (h:ZMq (vns [a,s,w])):∃r,w=.bool r∧(r=true↔s∈slC a):=by
 obtain⟨a',s',r,h1,h2⟩:=h
 simp only[vns,List.map_cons,List.map_nil,List.cons.injEq,and_true] at h1
 obtain⟨rfl,rfl,h1⟩:=h1
 rw[ZMd ks,ZMz ka] at h2
 exact⟨r,ZOD h1,h2⟩
theorem ZWX {a s w:V} (h:ZOu [a,s,w]):∃i:Nat,w=.int .i64 i∧¬s∈(slC a).take i:=by
 obtain⟨a',s',i,h1,h2⟩:=h
 simp only[List.cons.injEq,and_true] at h1
 obtain⟨rfl,rfl,rfl⟩:=h1
 exact⟨i,rfl,h2⟩
theorem ZOs {a s w:V} (h:ZKq [a,s,w]):∃i:Nat,w=.int .i64 i∧∀j,j < i→¬ZLk a s j:=by
 obtain⟨a',s',i,h1,h2⟩:=h
 simp only[List.cons.injEq,and_true] at h1
 obtain⟨rfl,rfl,rfl⟩:=h1
 exact⟨i,rfl,h2⟩
theorem ZQo {c sz:Nat} {d:List V} {names w:V} (h:ZLU c sz [.agg d,w,names]):∃i:Nat,w=.int .i64 i∧slC names=(if c=14 then [cl d 1] else [])++ZKB (slC (cl d c)) sz i:=by
 obtain⟨d',n',i,h1,h2⟩:=h
 simp only[List.cons.injEq,V.agg.injEq,and_true] at h1
 obtain⟨rfl,rfl,rfl⟩:=h1
 exact⟨i,rfl,h2⟩
theorem ZRu {d:List V} {names:V} (hs:∀l,names≠.tup l) (h:slC names=ZKN d):ZLB (vns [.agg d,names]):=
 ⟨d.map ZEY,ZFf names,rfl,by rw[ZN0 hs,ZXy];exact h⟩
theorem ZXt {d:List V} {names:V} (hs:∀l,names≠.tup l) (h:ZLB (vns [.agg d,names])):slC names=ZKN d:=by
 obtain⟨d',n',h1,h2⟩:=h
 have h1:[V.agg (d.map ZEY),ZFf names]=_:=h1
 simp only[List.cons.injEq,V.agg.injEq,and_true] at h1
 obtain⟨rfl,rfl⟩:=h1
 rwa [ZN0 hs,ZXy] at h2
theorem ZVu {d x:List V} {i s:V} {n:Nat} (ks:TK P KD (.str n) s) (h:(kd x=3↔ZLn d s)∧0≤V.intN (x.getD 2 ZmM)):ZLy (vns [.agg d,i,s,.agg x]):=
 ⟨d.map ZEY,ZFf i,s,x.map ZEY,by show[_,_,ZFf s,_]=_;rw[ZMd ks];rfl,by rw[ZOx,ZW2,ZPf];exact h⟩
theorem ZZY {d x:List V} {i s:V} {n:Nat} (ks:TK P KD (.str n) s) (h:ZLy (vns [.agg d,i,s,.agg x])):(kd x=3↔ZLn d s)∧0≤V.intN (x.getD 2 ZmM):=by
 obtain⟨d',i',s',x',h1,h2⟩:=h
 have h1:[V.agg (d.map ZEY),ZFf i,ZFf s,.agg (x.map ZEY)]=_:=h1
 simp only[List.cons.injEq,V.agg.injEq,and_true] at h1
 obtain⟨rfl,rfl,rfl,rfl⟩:=h1
 rwa [ZMd ks,ZOx,ZW2,ZPf] at h2
theorem ZWL {k:K} {env s:V} {i:Nat} (ka:TK P KD k env):ZLk (ZFf env) s i↔ZLk env s i:=by unfold ZLk ZKV;rw[ZMz ka]
theorem ZO4 {k:K} {env s:V} {i:Nat} (ka:TK P KD k env):ZLv (ZFf env) s i↔ZLv env s i:=by unfold ZLv ZLk ZKV;rw[ZMz ka,ZTh ka]
theorem ZSz {env s c:V} {x:List V} {n i:Nat} (ka:TK P KD (.sl e rf mx) env) (ks:TK P KD (.str n) s) (h1:ZLv env s i) (h2:V.intN (x.getD 1 ZmM)=i) (h3:kd x=3↔ZLn (ZKV env i) s) (h4:0≤V.intN (x.getD 2 ZmM)):ZKR (vns [env,s,.tup [.agg x,c]]):=
 ⟨ZFf env,s,x.map ZEY,ZKp c,i,by show[_,ZFf s,_]=_;rw[ZMd ks];rfl,(ZO4 ka).2 h1,by rw[ZPf];exact h2,by rw[ZOx];unfold ZKV;rw[ZMz ka];exact h3,by rw[ZPf];exact h4⟩
theorem ZMI {env s c:V} {x:List V} {n:Nat} (ka:TK P KD (.sl e rf mx) env) (ks:TK P KD (.str n) s) (h:ZKR (vns [env,s,.tup [.agg x,c]])):∃i:Nat,ZLv env s i∧V.intN (x.getD 1 ZmM)=i∧(kd x=3↔ZLn (ZKV env i) s)∧0≤V.intN (x.getD 2 ZmM):=by
 obtain⟨env',s',x',c',i,h0,h1,h2,h3,h4⟩:=h
 have h0:[ZFf env,ZFf s,.tup [V.agg (x.map ZEY),ZKp c]]=_:=h0
 simp only[List.cons.injEq,V.agg.injEq,V.tup.injEq,and_true] at h0
 obtain⟨rfl,rfl,rfl,rfl⟩:=h0
 rw[ZMd ks] at h1 h3
 unfold ZKV at h3
 rw[ZMz ka,ZOx] at h3
 rw[ZPf] at h2 h4
 exact⟨i,(ZO4 ka).1 h1,h2,h3,h4⟩
theorem ZVC {env s x:V} {n:Nat} (ka:TK P KD (.sl e rf mx) env) (ks:TK P KD (.str n) s) (h:∀i,i < V.lenN env→¬ZLk env s i):ZNg (vns [env,s,x]):=
 ⟨ZFf env,s,ZFf x,by show[_,ZFf s,_]=_;rw[ZMd ks],fun i hi hh=> h i (by rwa [ZTh ka] at hi) ((ZWL ka).1 hh)⟩
theorem ZVB {env s x:V} {n:Nat} (ka:TK P KD (.sl e rf mx) env) (ks:TK P KD (.str n) s) (h:ZNg (vns [env,s,x])):∀i,i < V.lenN env→¬ZLk env s i:=by
 obtain⟨env',s',x',h0,h1⟩:=h
 have h0:[ZFf env,ZFf s,ZFf x]=_:=h0
 simp only[List.cons.injEq,and_true] at h0
 obtain⟨rfl,rfl,rfl⟩:=h0
 rw[ZMd ks] at h1
 exact fun i hi hh=> h1 i (by rwa [ZTh ka]) ((ZWL ka).2 hh)
theorem ZL5 {env s:V} {d:List V} {n:Nat} {m:Int} {ok:Bool} (ka:TK P KD (.sl e rf mx) env) (ks:TK P KD (.str n) s) (h:ZM4 env s d (ok=true∧m= -1)):ZGQ (vns [env,s,.tup [.agg d,.int .i64 m,.bool ok]]):=by
 refine⟨ZFf env,s,d.map ZEY,m,ok,by show[_,ZFf s,_]=_;rw[ZMd ks];rfl,?_⟩
 unfold ZM4 ZKV
 simp only[ZO4 ka,ZMz ka,ZKt]
 exact h
theorem ZZ4 {env s m ok:V} {d:List V} {n:Nat} (ka:TK P KD (.sl e rf mx) env) (ks:TK P KD (.str n) s) (h:ZGQ (vns [env,s,.tup [.agg d,m,ok]])):∃m' ok',m=.int .i64 m'∧ok=.bool ok'∧ZM4 env s d (ok'=true∧m'= -1):=by
 obtain⟨env',s',d',m',ok',h0,h1⟩:=h
 have h0:[ZFf env,ZFf s,.tup [V.agg (d.map ZEY),ZKp m,ZKp ok]]=_:=h0
 simp only[List.cons.injEq,V.agg.injEq,V.tup.injEq,and_true] at h0
 obtain⟨rfl,rfl,rfl,h2,h3⟩:=h0
 unfold ZM4 ZKV at h1
 simp only[ZO4 ka,ZMz ka,ZKt,ZMd ks] at h1
 refine⟨m',ok',?_,?_,h1⟩
 ·cases m with
  |int i n=> exact h2
  |_=> cases h2
 ·cases ok with
  |bool b=> exact h3
  |_=> cases h3
theorem ZYB {v:V} {va ra:List V} {i:Int} (hk:TK P KD (.sl e rf mx) v) (ea:ZKU v i va ra) (la:va.length=(KD e rf).length) (h1:(KD e rf).length=1):∃N:Nat,(N:Int)=i∧N < V.lenN v∧(slC v).take (N+1)=(slC v).take N++va:=by
 obtain⟨N,n1,n2, -,n3⟩:=ZL2 hk ea la
 rw[h1,Nat.mul_one,Nat.mul_one] at n3
 exact⟨N,n1,n2,n3⟩
theorem ZP7 {v w:V} {va ra:List V} {i:Int} (hk:TK P KD (.sl e rf mx) v) (ea:ZKU v i (w::va) ra) (la:(w::va).length=(KD e rf).length):∃N:Nat,(N:Int)=i∧N < V.lenN v∧ZKB (slC v) (KD e rf).length (N+1)=ZKB (slC v) (KD e rf).length N++[w]:=by
 obtain⟨N,n1,n2,n3, -⟩:=ZL2 hk ea la
 refine⟨N,n1,n2,?_⟩
 show _++[(slC v).getD (N * _) ZmM]=_
 have:(slC v).getD (N * (KD e rf).length) ZmM=w:=by
  have h:((slC v).drop (N * (KD e rf).length))[0]?=some w:=by rw[n3];rfl
  rw[List.getElem?_drop,Nat.add_zero] at h
  rw[List.getD_eq_getElem?_getD,h];rfl
 rw[this]
theorem ZOe {v:V} {va ra:List V} {i:Int} (hk:TK P KD (.sl e rf mx) v) (ea:ZKU v i va ra) (la:va.length=(KD e rf).length) (h1:(KD e rf).length=23):∃N:Nat,(N:Int)=i∧N < V.lenN v∧ZKV v N=va:=by
 obtain⟨N,n1,n2,n3, -⟩:=ZL2 hk ea la
 refine⟨N,n1,n2,?_⟩
 rw[h1] at n3 la
 show List.take 23 _=_
 rw[n3,←la,List.take_left]
theorem ZR9 {m:Nat} {u w s:V} {sz':Nat} (ks:TK P KD (.str m) s) (h:ZLG 1 [u,.vs (V.seals [s]) 1 sz' .tight,w]):slC w=slC u++[s]:=by
 obtain⟨u',v',o,h1⟩:=h
 simp only[List.cons.injEq,and_true] at h1
 obtain⟨rfl,rfl,rfl⟩:=h1
 cases ks;rfl
theorem ZPV {v:V}:slC (ZEY v)=slC v:=Z2u v
end
theorem ZNh {env s:V} {i j:Nat} (h:ZLv env s i) (h':ZLv env s j):i=j:=by
 rcases Nat.lt_trichotomy i j with h1|h1|h1
 ·exact absurd h.2.1 (h'.2.2 i h1)
 ·exact h1
 ·exact absurd h'.2.1 (h.2.2 j h1)
theorem ZMH {env s:V} {d:List V} {b:Prop} (hb:¬b) (h:∀i,ZLv env s i→¬ZLn (ZKV env i) s):ZM4 env s d b:=⟨fun hh=> absurd hh hb,fun⟨i,h1,h2⟩=> absurd h2 (h i h1)⟩
theorem ZR4 {u v w:V} (h:ZOR [u,v,w]):∃p q,u=.str p∧v=.str q∧w=.str (p++q):=by
 obtain⟨p,q,h⟩:=h
 simp only[List.cons.injEq,and_true] at h
 exact⟨p,q,h⟩
theorem ZXv {d:List V} (h:kd d=0∨kd d=1∨kd d=2):ZKN d=[cl d 1]:=by
 unfold ZKN
 rw[if_neg (by omega),if_neg (by omega),if_pos h]
theorem ZXw {d:List V} (h:kd d=3):ZKN d=cl d 1::(ZKB (slC (cl d 14)) 6 (V.lenN (cl d 14))++[ZOE (cl d 1)]):=if_pos h
theorem ZXx {d:List V} (h:kd d=4):ZKN d=ZKB (slC (cl d 22)) 15 (V.lenN (cl d 22)):=by
 unfold ZKN
 rw[if_neg (by omega),if_pos h]
theorem ZXu {d:List V} (h0:kd d≠0) (h1:kd d≠1) (h2:kd d≠2) (h3:kd d≠3) (h4:kd d≠4):ZKN d=[]:=by
 unfold ZKN
 rw[if_neg h3,if_neg h4,if_neg (by omega)]
section
variable {P:Program} {KD:TypeId→Bool→List K} {e:TypeId} {rf:Bool} {mx:Nat}
theorem ZYn {m:Nat} {s:V} (ks:TK P KD (.str m) s):V.seals [s]=[s]:=by cases ks;rfl
theorem ZTp {d:List V} {s:V} {m sz:Nat} (ks:TK P KD (.str m) s) (hd:d.getD 1 ZmM=s) (h:kd d=0∨kd d=1∨kd d=2):ZLB (vns [.agg d,.vs (V.seals [s]) 1 sz .tight]):=by
 refine ZRu (by intro l h;cases h) ?_
 rw[ZXv h]
 show V.seals [s]=[ZEY (d.getD 1 ZmM)]
 rw[hd,ZYn ks,ZMc ks]
theorem ZKG {i:IntKind} {v:V} {n:Int} (k:TK P KD (.int i) v) (h:V.intN v=n):v=.int i n:=by cases k;subst h;rfl
theorem ZNd {d x:List V} {i s:V} {n:Nat} (ks:TK P KD (.str n) s) (h:kd x≠3) (h':¬ZLn d s) (hn:0≤V.intN (x.getD 2 ZmM)):ZLy (vns [.agg d,i,s,.agg x]):=
 ZVu ks ⟨⟨fun hh=> absurd hh h,fun hh=> absurd hh h'⟩,hn⟩
theorem Z1J {t0:V} {l:List V} (k:TK P KD (.int .i64) t0) (h0:¬t0=.int .i64 0) (h1:¬t0=.int .i64 1) (h2:¬t0=.int .i64 2) (h3:¬t0=.int .i64 3) (h4:¬t0=.int .i64 4):ZLB (vns [.agg (t0::l),.nils]):=
 ZRu (by intro l h;cases h) (ZXu (d:=t0::l) (fun h=> h0 (ZKG k h)) (fun h=> h1 (ZKG k h)) (fun h=> h2 (ZKG k h)) (fun h=> h3 (ZKG k h)) (fun h=> h4 (ZKG k h))).symm
theorem ZQj {v:V} (h:TK P KD .idx v):0≤V.intN v:=by obtain⟨n,rfl,h⟩:=ZMi h;rw[h];exact Int.natCast_nonneg n
end
def ZGL (i:Int):List V:=[.int .i64 0,.int .i64 i,.str ⟨#[]⟩,.nils,.nils]
def eqS:V:=.str ⟨#[69,113]⟩
def ZOF:V:=.str ⟨#[69,113,46,114,101,102,108]⟩
def eqC:List V:=[.int .i64 3,.int .i64 0,eqS,.vs [.int .i64 0,.vs [.int .i64 0,.int .i64 0] 1 0 .lock] 1 0 .lock,.nils]
def ZX8 (t0:List V):List V:=mkT 6 t0 (mkT 6 (ZGL 0) (mkT 4 (mkT 4 (mkT 4 eqC (ZGL 1)) (ZGL 0)) (ZGL 0)))
def ZLZ (tel s:List V) (C:V):Prop:=tel.length=15∧kd tel=2∧(tel.drop 5).take 5=ZGL 0∧(tel.drop 10).take 5=ZGL 1∧(kd s=1∨kd s=2)∧C=.vs (ZOF::ZX8 (tel.take 5)) 1 0 .lock
def ZOP (T:List V) (C:V):Prop:=∃tel s,AllR T tel s∧ZLZ tel s C
def ZPF (d:List V):Prop:=d.getD 2 ZmM=.int .i64 1∧d.getD 13 ZmM=.int .i64 2∧d.getD 15 ZmM=.int .i64 2∧ZOP ((d.drop 3).take 5) (d.getD 14 ZmM)
def ZLF (env:V):Prop:=∃i,ZLv env eqS i∧ZLn (ZKV env i) eqS∧ZPF (dns (ZKV env i))
def ZR0 (h ar:List V):Prop:=kd h=3∧h.getD 2 ZmM=eqS∧V.lenN (h.getD 3 ZmM)=1∧ar.length=15
def zT:List V:=ZGL 0
def ZOO (D:Prop) (h ar a x y:List V) (lv:V) (ok:Bool):Prop:=
 (ok=true∧D∧ZR0 h ar∧a=ar.take 5∧x=(ar.drop 5).take 5∧y=(ar.drop 10).take 5∧lv=h.getD 3 ZmM)∨
 (ok=false∧¬(D∧ZR0 h ar)∧a=zT∧x=zT∧y=zT∧lv=.nils)
def ZK4:List V→Prop:=fun l=> ∃d r,l=[.agg d,.bool r]∧(r=true↔ZOP (dns ((d.drop 3).take 5)) (dn (d.getD 14 ZmM)))
def ZKQ:List V→Prop:=fun l=> ∃env r,l=[env,.bool r]∧(r=true↔ZLF env)
def ZGT:List V→Prop:=fun l=> ∃env t a x y lv ok h ar,l=[env,.agg t,.tup [.agg a,.agg x,.agg y,lv,.bool ok]]∧SpR (dns t) h ar∧ZOO (ZLF env) h ar (dns a) (dns x) (dns y) (dn lv) ok
theorem ZW4 {k:Int} {t a b a' b':List V} (h:ZML k t a b) (h':ZML k t a' b'):a=a'∧b=b':=by
 obtain⟨i,n,l,rfl,la,lb⟩:=h
 obtain⟨i',n',l',e,la',lb'⟩:=h'
 simp only[List.cons.injEq,V.vs.injEq,and_true] at e
 exact List.append_inj e.2.2.2.2 (by rw[la,la'])
theorem ZZr {t tel s:List V} (h:AllR t tel s):∀{tel' s':List V},AllR t tel' s'→tel=tel'∧s=s':=by
 induction h with
 |stop hn=>
  intro tel' s' h'
  cases h' with
  |stop=> exact⟨rfl,rfl⟩
  |step h2 _=> exact absurd h2 (hn _ _)
 |step h1 _ ih=>
  intro tel' s' h'
  cases h' with
  |stop hn=> exact absurd h1 (hn _ _)
  |step h2 h3=>
   obtain⟨rfl,rfl⟩:=ZW4 h1 h2
   obtain⟨rfl,rfl⟩:=ih h3
   exact⟨rfl,rfl⟩
theorem Z2w {t tel s:List V} (h:SpR t s tel):∀{tel' s':List V},SpR t s' tel'→tel=tel'∧s=s':=by
 induction h with
 |stop hn=>
  intro tel' s' h'
  cases h' with
  |stop=> exact⟨rfl,rfl⟩
  |step h2 _=> exact absurd h2 (hn _ _)
 |step h1 _ ih=>
  intro tel' s' h'
  cases h' with
  |stop hn=> exact absurd h1 (hn _ _)
  |step h2 h3=>
   obtain⟨rfl,rfl⟩:=ZW4 h1 h2
   obtain⟨rfl,rfl⟩:=ih h3
   exact⟨rfl,rfl⟩
theorem ZU2 {f l r:List V} (h:AppR f l r):(l=[]∧r=f)∨∃a ar,l=a++ar∧a.length=5∧AppR (mkT 4 f a) ar r:=by
 cases h with
 |nil=> exact Or.inl ⟨rfl,rfl⟩
 |cons ha h=> exact Or.inr ⟨_,_,rfl,ha,h⟩
theorem ZVd {k:Int} {l t r:List V} (h:BindR k l t r):(l=[]∧r=t)∨∃ar a,l=ar++a∧a.length=5∧BindR k ar (mkT k a t) r:=by
 cases h with
 |nil=> exact Or.inl ⟨rfl,rfl⟩
 |snoc ha h=> exact Or.inr ⟨_,_,rfl,ha,h⟩
theorem ZR7 {f a ar r:List V} (h:AppR f (a++ar) r) (ha:a.length=5):AppR (mkT 4 f a) ar r:=by
 rcases ZU2 h with ⟨h1, -⟩|⟨a',ar',h1,h2,h3⟩
 ·have:=congrArg List.length h1
  rw[List.length_append,ha,List.length_nil] at this
  omega
 ·obtain⟨rfl,rfl⟩:=List.append_inj h1 (by rw[ha,h2])
  exact h3
theorem ZZz {f r:List V} (h:AppR f [] r):r=f:=by
 rcases ZU2 h with ⟨-,h1⟩|⟨a,ar,h1,h2, -⟩
 ·exact h1
 ·have:=congrArg List.length h1
  rw[List.length_append,h2,List.length_nil] at this
  omega
theorem ZVe {k:Int} {a ar t r:List V} (h:BindR k (ar++a) t r) (ha:a.length=5):BindR k ar (mkT k a t) r:=by
 rcases ZVd h with ⟨h1, -⟩|⟨ar',a',h1,h2,h3⟩
 ·have:=congrArg List.length h1
  rw[List.length_append,ha,List.length_nil] at this
  omega
 ·obtain⟨rfl,rfl⟩:=List.append_inj' h1 (by rw[ha,h2])
  exact h3
theorem ZZE {k:Int} {t r:List V} (h:BindR k [] t r):r=t:=by
 rcases ZVd h with ⟨-,h1⟩|⟨a,ar,h1,h2, -⟩
 ·exact h1
 ·have:=congrArg List.length h1
  rw[List.length_append,h2,List.length_nil] at this
  omega
theorem ZPM {f a b c r:List V} (h:AppR f (a++(b++(c++[]))) r) (ha:a.length=5) (hb:b.length=5) (hc:c.length=5):r=mkT 4 (mkT 4 (mkT 4 f a) b) c:=
 ZZz (ZR7 (ZR7 (ZR7 h ha) hb) hc)
theorem ZVc {k:Int} {a b t r:List V} (h:BindR k (([]++a)++b) t r) (ha:a.length=5) (hb:b.length=5):r=mkT k a (mkT k b t):=
 ZZE (ZVe (ZVe h hb) ha)
theorem ZMf {T tel s:List V} {C:V} (h:AllR T tel s):ZOP T C↔ZLZ tel s C:=
 ⟨fun⟨tel',s',h1,h2⟩=> by obtain⟨rfl,rfl⟩:=ZZr h h1;exact h2,fun h1=> ⟨tel,s,h,h1⟩⟩
theorem Z2b {d:List V} {r:Bool} (h:r=true↔ZOP (dns ((d.drop 3).take 5)) (dn (d.getD 14 ZmM))):ZK4 (vns [.agg d,.bool r]):=
 ⟨d.map ZEY,r,rfl,by rw[←List.map_drop,←List.map_take,ZKt,ZO8,ZSp];exact h⟩
theorem ZX7 {d:List V} {w:V} (h:ZK4 (vns [.agg d,w])):∃r,w=.bool r∧(r=true↔ZOP (dns ((d.drop 3).take 5)) (dn (d.getD 14 ZmM))):=by
 obtain⟨d',r,h1,h2⟩:=h
 have h1:[V.agg (d.map ZEY),ZFf w]=_:=h1
 simp only[List.cons.injEq,V.agg.injEq,and_true] at h1
 obtain⟨rfl,h3⟩:=h1
 rw[←List.map_drop,←List.map_take,ZKt,ZO8,ZSp] at h2
 exact⟨r,ZOD h3,h2⟩
theorem ZTD {d tel s:List V} {r:Bool} (hA:AllR (dns ((d.drop 3).take 5)) tel s) (h:r=true↔ZLZ tel s (dn (d.getD 14 ZmM))):ZK4 (vns [.agg d,.bool r]):=
 Z2b (h.trans (ZMf hA).symm)
theorem ZMx {d tel s:List V} (hA:AllR (dns ((d.drop 3).take 5)) tel s) (h:¬ZLZ tel s (dn (d.getD 14 ZmM))):ZK4 (vns [.agg d,.bool false]):=
 ZTD hA ⟨fun hh=> (by cases hh),fun hh=> absurd hh h⟩
section
variable {P:Program} {KD:TypeId→Bool→List K} {e:TypeId} {rf:Bool} {mx:Nat}
theorem ZZZ {P:Program} {KD:TypeId→Bool→List K}:TK P KD (.str 1073741824) eqS:=.str (by decide) (by decide)
theorem ZPY {k:K} {env:V} (ka:TK P KD k env):ZLF (ZFf env)↔ZLF env:=by
 unfold ZLF ZKV
 simp only[ZO4 ka,ZMz ka]
theorem ZSm {env:V} {r:Bool} (ka:TK P KD (.sl e rf mx) env) (h:r=true↔ZLF env):ZKQ (vns [env,.bool r]):=
 ⟨ZFf env,r,rfl,h.trans (ZPY ka).symm⟩
theorem ZVo {env w:V} (ka:TK P KD (.sl e rf mx) env) (h:ZKQ (vns [env,w])):∃r,w=.bool r∧(r=true↔ZLF env):=by
 obtain⟨env',r,h1,h2⟩:=h
 have h1:[ZFf env,ZFf w]=_:=h1
 simp only[List.cons.injEq,and_true] at h1
 obtain⟨rfl,h3⟩:=h1
 exact⟨r,ZOD h3,h2.trans (ZPY ka)⟩
theorem ZZW {env:V} {d:List V} {b:Prop} (hf:ZM4 env eqS d b):ZLF env↔b∧ZPF (dns d):=by
 constructor
 ·rintro⟨i,h1,h2,h3⟩
  have hb:=hf.2 ⟨i,h1,h2⟩
  obtain⟨j,g1,g2,g3⟩:=hf.1 hb
  obtain rfl:=ZNh h1 g1
  exact⟨hb,by rw[g3];exact h3⟩
 ·rintro⟨hb,h3⟩
  obtain⟨j,g1,g2,g3⟩:=hf.1 hb
  exact⟨j,g1,g2,by rw[←g3];exact h3⟩
theorem ZL4 {env m:V} {d:List V} {ok:Bool} (ka:TK P KD (.sl e rf mx) env) (h:ZGQ (vns [env,eqS,.tup [.agg d,m,.bool ok]])):ZLF env↔(ok=true∧m=.int .i64 (-1))∧ZPF (dns d):=by
 obtain⟨m',ok',rfl,h2,h3⟩:=ZZ4 ka ZZZ h
 cases h2
 rw[ZZW h3,V.int.injEq]
 simp
theorem ZLH {env m:V} {d:List V} {ok:Bool} (ka:TK P KD (.sl e rf mx) env) (h:ZGQ (vns [env,eqS,.tup [.agg d,m,.bool ok]])) (hn:¬((ok=true∧m=.int .i64 (-1))∧ZPF (dns d))):ZKQ (vns [env,.bool false]):=
 ZSm ka ⟨fun hh=> (by cases hh),fun hh=> absurd ((ZL4 ka h).1 hh) hn⟩
theorem ZSu {env lv:V} {t a x y h ar:List V} {ok:Bool} (ka:TK P KD (.sl e rf mx) env) (hs:SpR (dns t) h ar) (hr:ZOO (ZLF env) h ar (dns a) (dns x) (dns y) (dn lv) ok):ZGT (vns [env,.agg t,.tup [.agg a,.agg x,.agg y,lv,.bool ok]]):=by
 refine⟨ZFf env,t.map ZEY,a.map ZEY,x.map ZEY,y.map ZEY,ZKp lv,ok,h,ar,rfl,by rw[ZKt];exact hs,?_⟩
 unfold ZOO
 rw[ZKt,ZKt,ZKt,ZP1]
 simp only[ZPY ka]
 exact hr
theorem ZLj {env:V} {t h ar:List V} (ka:TK P KD (.sl e rf mx) env) (hs:SpR (dns t) h ar) (hn:¬(ZLF env∧ZR0 h ar)):
 ZGT (vns [env,.agg t,.tup [.agg [.int .i64 0,.int .i64 0,.str ⟨#[]⟩,.nils,.nils],.agg [.int .i64 0,.int .i64 0,.str ⟨#[]⟩,.nils,.nils],.agg [.int .i64 0,.int .i64 0,.str ⟨#[]⟩,.nils,.nils],.nils,.bool false]]):=
 ZSu ka hs (Or.inr ⟨rfl,hn,rfl,rfl,rfl,rfl⟩)
theorem part {v:V} {va ra:List V} {i:Int} {N:Nat} (hk:TK P KD (.sl e rf mx) v) (ea:ZKU v i va ra) (la:va.length=(KD e rf).length) (h5:(KD e rf).length=5) (hN:i=N):((dns (slC v)).drop (N * 5)).take 5=dns va:=by
 obtain⟨N',n1,n2,n3, -⟩:=ZL2 hk ea la
 obtain rfl:N'=N:=by omega
 rw[h5] at n3 la
 rw[←ZSr,n3,dns_append,List.take_left' (by rw[dns_len];exact la)]
theorem ZOy {v t0:V} {va ra:List V} {i:Int} {ki:IntKind} (hk:TK P KD (.sl e rf mx) v) (ea:ZKU v i (t0::va) ra) (la:(t0::va).length=(KD e rf).length) (hi:i=0) (kt:TK P KD (.int ki) t0):kd (dns (slC v))=V.intN t0:=by
 obtain⟨N',n1,n2,n3, -⟩:=ZL2 hk ea la
 obtain rfl:N'=0:=by omega
 rw[Nat.zero_mul,List.drop_zero] at n3
 rw[n3]
 show V.intN (dn t0)=_
 rw[ZKA kt]
theorem ZMh {v:V} (hk:TK P KD (.sl e rf mx) v) (h5:(KD e rf).length=5):(dns (slC v)).length=15↔V.lenN v=3:=by
 rw[dns_len,(ZLu hk).2,h5];omega
theorem ZOI {v:V} {l:List V} {n:Nat} (hk:TK P KD (.sl e rf mx) v) (h:dn v=.vs l n 0 .lock):dns (slC v)=l∧V.lenN v=n:=by
 rw[(ZLu hk).1] at h
 cases hb:Nat.beq (V.lenN v) 0 with
 |true=> rw[hb] at h;cases h
 |false=> rw[hb] at h;cases h;exact⟨rfl,rfl⟩
theorem ZRx {v:V} {va ra:List V} {i:Int} (hk:TK P KD (.sl e rf mx) v) (hl:V.lenN v=1) (ea:ZKU v i va ra) (la:va.length=(KD e rf).length) (hi:i=0):dn v=.vs (dns va) 1 0 .lock:=by
 obtain⟨N',n1,n2, -,n3⟩:=ZL2 hk ea la
 obtain rfl:N'=0:=by omega
 rw[Nat.zero_mul,List.take_zero,List.nil_append] at n3
 obtain⟨s1,s2⟩:=ZLu hk
 rw[hl] at s1 s2
 rw[List.take_of_length_le (by rw[s2];exact Nat.le_refl _)] at n3
 rw[s1,n3];rfl
theorem ZSA {v t0:V} {va ra:List V} {i:Int} (hk:TK P KD (.sl e rf mx) v) (ea:ZKU v i (t0::va) ra) (la:(t0::va).length=(KD e rf).length) (hi:i=0):∃l,dns (slC v)=dn t0::l:=by
 obtain⟨N',n1,n2,n3, -⟩:=ZL2 hk ea la
 obtain rfl:N'=0:=by omega
 rw[Nat.zero_mul,List.drop_zero] at n3
 rw[n3]
 exact⟨_,rfl⟩
theorem ZYs {v w:V} (hk:TK P KD (.sl e rf mx) v) (h5:(KD e rf).length=5) (h:slQ false true [v,.int .i64 2,w]):slC w=(slC v).take 10:=by
 obtain⟨cs,n,sz,o,L,H',o',i,i',h1,h2,h3,h4,h6⟩:=h
 obtain rfl:=h4 rfl
 simp only[cond_false,cond_true,List.nil_append,List.cons_append,List.cons.injEq,V.int.injEq,and_true] at h1
 obtain⟨rfl,⟨-,hH⟩,rfl⟩:=h1
 obtain rfl:H'=2:=by omega
 cases hk with
 |vs hz hn hm hp hc=>
  rw[←hz,h5]
  show(cs.drop (0 * 5)).take ((2 - 0) * 5)=cs.take 10
  rw[Nat.zero_mul,List.drop_zero]
theorem ZP0 {v:V} (hk:TK P KD (.sl e rf mx) v):V.lenN (dn v)=V.lenN v:=by
 rw[(ZLu hk).1]
 cases hb:Nat.beq (V.lenN v) 0 with
 |true=> rw[Nat.eq_of_beq_eq_true hb];rfl
 |false=> rfl
theorem ZRF {tel s ty:List V} {C:V} {r:Bool} (h1:tel.length=15) (h2:kd tel=2) (h3:(tel.drop 5).take 5=ZGL 0) (h4:(tel.drop 10).take 5=ZGL 1) (h5:kd s=1∨kd s=2) (hC:C=.vs (ZOF::ty) 1 0 .lock) (hr:r=true↔ty=ZX8 (tel.take 5)):r=true↔ZLZ tel s C:=by
 rw[hr]
 subst hC
 constructor
 ·intro h;rw[h];exact⟨h1,h2,h3,h4,h5,rfl⟩
 ·intro h
  have:=h.2.2.2.2.2
  simp only[V.vs.injEq,List.cons.injEq,true_and,and_true] at this
  exact this
theorem ZYG {tel:List V}:tel.take 10=([]++tel.take 5)++(tel.drop 5).take 5:=by
 rw[List.nil_append,←List.take_add]
end
def ZLr (sz:Nat):List V→Prop:=fun l=> ∃cs name,∃i:Nat,l=[cs,.agg [name],.int .i64 i]∧¬name∈ZKB (slC cs) sz i
theorem ZWY {sz:Nat} {cs name w:V} (h:ZLr sz [cs,.agg [name],w]):∃i:Nat,w=.int .i64 i∧¬name∈ZKB (slC cs) sz i:=by
 obtain⟨a',s',i,h1,h2⟩:=h
 simp only[List.cons.injEq,V.agg.injEq,and_true] at h1
 obtain⟨rfl,rfl,rfl⟩:=h1
 exact⟨i,rfl,h2⟩
theorem ZZ8 {cs:List V} {sz:Nat} {s:V} {i j:Nat} (h:s∈ZKB cs sz i) (hij:i≤j):s∈ZKB cs sz j:=by
 induction hij with
 |refl=> exact h
 |step _ ih=> exact List.mem_append_left _ ih
section
variable {P:Program} {KD:TypeId→Bool→List K} {e:TypeId} {rf:Bool} {mx:Nat}
theorem mem1 {t0 t1 s:V} {l:List V} {m:Nat} (kt:TK P KD (.str m) t1) (h:V.intN t0=0∨V.intN t0=1∨V.intN t0=2):s∈ZKN (t0::t1::l)↔s=t1:=by
 rw[ZXv (d:=t0::t1::l) h]
 show s∈[ZEY t1]↔_
 rw[ZMc kt,List.mem_singleton]
theorem mem3 {t0 t1 s c:V} {l:List V} {m:Nat} (kt:TK P KD (.str m) t1) (h:V.intN t0=3) (hc:(t0::t1::l).getD 14 ZmM=c):s∈ZKN (t0::t1::l)↔s=t1∨s∈ZKB (slC c) 6 (V.lenN c)∨s=ZOE t1:=by
 rw[ZXw (d:=t0::t1::l) h]
 show s∈ZEY t1::(ZKB (slC (ZEY ((t0::t1::l).getD 14 ZmM))) 6 (V.lenN (ZEY ((t0::t1::l).getD 14 ZmM)))++[ZOE (ZEY t1)])↔_
 rw[hc,ZPV,ZOz,ZMc kt,List.mem_cons,List.mem_append,List.mem_singleton]
theorem ZXo {t0 s c:V} {l:List V} (h:V.intN t0=4) (hc:(t0::l).getD 22 ZmM=c):s∈ZKN (t0::l)↔s∈ZKB (slC c) 15 (V.lenN c):=by
 rw[ZXx (d:=t0::l) h]
 show s∈ZKB (slC (ZEY ((t0::l).getD 22 ZmM))) 15 (V.lenN (ZEY ((t0::l).getD 22 ZmM)))↔_
 rw[hc,ZPV,ZOz]
theorem Z1H {t0 s:V} {l:List V} (k:TK P KD (.int .i64) t0) (h0:¬t0=.int .i64 0) (h1:¬t0=.int .i64 1) (h2:¬t0=.int .i64 2) (h3:¬t0=.int .i64 3) (h4:¬t0=.int .i64 4):¬s∈ZKN (t0::l):=by
 rw[ZXu (d:=t0::l) (fun h=> h0 (ZKG k h)) (fun h=> h1 (ZKG k h)) (fun h=> h2 (ZKG k h)) (fun h=> h3 (ZKG k h)) (fun h=> h4 (ZKG k h))]
 exact List.not_mem_nil
theorem ZOt {v s w w':V} {va ra:List V} (hk:TK P KD (.sl e rf mx) v) (inv:ZKq [v,s,w]) (ea:ZKU v (V.intN w+0) va ra) (la:va.length=(KD e rf).length) (h1:(KD e rf).length=23) (hn:¬s∈ZKN va) (kw:TK P KD .idx w') (c1:V.intN w' - V.intN w≤1) (c2:V.intN w - V.intN w'≤ -1):ZKq [v,s,w']:=by
 obtain⟨i,rfl,h⟩:=ZOs inv
 obtain⟨N,n1,n2,n3⟩:=ZOe hk ea la h1
 obtain⟨j,rfl,hj⟩:=ZMi kw
 simp only[V.intN] at n1 c1 c2
 obtain rfl:N=i:=by omega
 obtain rfl:j=N+1:=by omega
 refine⟨_,_,_,rfl,fun m hm hh=> ?_⟩
 rcases Nat.lt_succ_iff_lt_or_eq.1 hm with h2|rfl
 ·exact h m h2 hh
 ·unfold ZLk at hh
  rw[n3] at hh
  exact hn hh
theorem ZVD {v s w:V} {va ra:List V} (hk:TK P KD (.sl e rf mx) v) (inv:ZKq [v,s,w]) (ea:ZKU v (V.intN w+0) va ra) (la:va.length=(KD e rf).length) (h1:(KD e rf).length=23) (hn:s∈ZKN va):∃i:Nat,ZLv v s i∧V.intN w=i∧ZKV v i=va:=by
 obtain⟨i,rfl,h⟩:=ZOs inv
 obtain⟨N,n1,n2,n3⟩:=ZOe hk ea la h1
 simp only[V.intN] at n1
 obtain rfl:N=i:=by omega
 exact⟨N,⟨n2,by unfold ZLk;rw[n3];exact hn,h⟩,rfl,n3⟩
theorem ZOj {v s w c t0 t1:V} {va ra x:List V} {n m:Nat} (hk:TK P KD (.sl e rf mx) v) (ks:TK P KD (.str n) s) (kt:TK P KD (.str m) t1) (inv:ZKq [v,s,w]) (ea:ZKU v (V.intN w+0) (t0::t1::va) ra) (la:(t0::t1::va).length=(KD e rf).length) (h1:(KD e rf).length=23) (hn:s∈ZKN (t0::t1::va))
 (hx:kd x≠3) (hx1:V.intN (x.getD 1 ZmM)=V.intN w) (hx2:0≤V.intN (x.getD 2 ZmM)) (hno:¬(V.intN t0=3∧s=t1)):ZKR (vns [v,s,.tup [.agg x,c]]):=by
 obtain⟨i,g1,g2,g3⟩:=ZVD hk inv ea la h1 hn
 refine ZSz (i:=i) hk ks g1 (hx1.trans g2) ⟨fun h=> absurd h hx,fun h=> absurd ?_ hno⟩ hx2
 rw[g3] at h
 refine⟨h.1,?_⟩
 have h2:s=ZEY t1:=h.2
 rwa [ZMc kt] at h2
theorem ZW0 {c s w w' t:V} {va ra:List V} {sz:Nat} (hk:TK P KD (.sl e rf mx) c) (inv:ZLr sz [c,.agg [s],w]) (ea:ZKU c (V.intN w+0) (t::va) ra) (la:(t::va).length=(KD e rf).length) (h1:(KD e rf).length=sz) (hn:¬t=s) (kw:TK P KD .idx w') (c1:V.intN w' - V.intN w≤1) (c2:V.intN w - V.intN w'≤ -1):ZLr sz [c,.agg [s],w']:=by
 obtain⟨i,rfl,h⟩:=ZWY inv
 obtain⟨N,n1,n2,n3⟩:=ZP7 hk ea la
 obtain⟨j,rfl,hj⟩:=ZMi kw
 simp only[V.intN] at n1 c1 c2
 obtain rfl:N=i:=by omega
 obtain rfl:j=N+1:=by omega
 rw[h1] at n3
 refine⟨_,_,_,rfl,fun hm=> ?_⟩
 rw[n3] at hm
 rcases List.mem_append.1 hm with hm|hm
 ·exact h hm
 ·exact hn (List.mem_singleton.1 hm).symm
theorem ZWZ {c s w:V} {sz:Nat} (inv:ZLr sz [c,.agg [s],w]) (h1:V.intN w - (V.lenN c:Nat)≤0) (h2:((V.lenN c:Nat):Int) - V.intN w≤0):¬s∈ZKB (slC c) sz (V.lenN c):=by
 obtain⟨i,rfl,h⟩:=ZWY inv
 simp only[V.intN] at h1 h2
 obtain rfl:i=V.lenN c:=by omega
 exact h
theorem ZVE {c w t:V} {va ra:List V} {sz:Nat} (hk:TK P KD (.sl e rf mx) c) (ea:ZKU c (V.intN w+0) (t::va) ra) (la:(t::va).length=(KD e rf).length) (h1:(KD e rf).length=sz):t∈ZKB (slC c) sz (V.lenN c):=by
 obtain⟨N,n1,n2,n3⟩:=ZP7 hk ea la
 rw[h1] at n3
 refine ZZ8 (i:=N+1) ?_ n2
 rw[n3]
 exact List.mem_append_right _ (List.mem_singleton.2 rfl)
end
end
section
def ZH5:List (List Nat×List Nat):=[([0,1],[0,3]),([],[]),([0,1,4,13],[6,20,25,26,27,28,29]),([0,1,7,8,10,11],[20,25,26,27]),([0,1,4],[4,5,6,15])]
def c127:List (List Nat×List Nat):=[([],[]),([0,6,32],[0,55,60,61,62,63,64,65]),([0,6,33],[0,55,64,65,66,67,68,69]),([0,6,34],[0,55,68,69,70,71,72,73]),([0,6,19,38],[0,55,72,73,74,75,76,79,87,88,89,90,91,92]),([0,27,36],[0,55,76,77,78,81,89,90,91]),([0,5,34],[0,55,56,59,60,63,64,67,68,71,72,75,76,77]),([0,1,6],[0,55,60,61,62,63]),([0,1,6],[0,55,64,65,66,67]),([0,1,6],[0,55,68,69,70,71]),([0,1,6],[0,55,72,73,74,75]),([],[]),([19,44],[76,100,101,102,103,104]),([0,1,6,19,34],[0,55,72,73,74,75,100,101,102]),([0,1,6],[0,55,72,73,74,75,88,89,90]),([],[]),([27,53],[78,120,121,122,123,124]),([0,1,6,27,34],[0,55,76,77,120,121,122]),([0,1],[0,8])]
def ZH6:List (List Nat×List Nat):=[([],[]),([0,1,6,8],[0,11,12,13,14,15]),([0,1,6],[11,12,13]),([0,1],[0,8])]
def ZH7:List (List Nat×List Nat):=[([0,1],[4,5]),([0,1],[8,9]),([0,1],[12,13]),([0,1],[16,17]),([0,1,14,31,37,38],[18,47,48,51,52]),([0,1,14,30,31],[16,17,18,26,34,35,36]),([0],[]),([22,32,38,47,48],[22,67,68,71,72]),([0,22,28],[20,21,22,28,36]),([0],[0,3,4,7,8,11,12,15,16,19])]
def c130:List (List Nat×List Nat):=[([0,24],[4,5]),([0,24],[8,9]),([0,24],[12,13]),([0,1,24],[12,15,18,19]),([0,1,24,30],[18,19]),([0,1,24],[18,19]),([0,24,29],[12,15]),([0,24],[12,15])]
def c26:List (List Nat×List Nat):=[([0,1,2,5,6,7],[0,3,6,9,12,13,14,15,16]),([],[14,15]),([2,7],[12,13]),([1,6],[6,9]),([0,5],[0,3])]
def c28:List (List Nat×List Nat):=[([0],[3,4,7]),([0,3],[3,10,13]),([0,14],[3,16,19]),([0,15],[3,22,25]),([0,15,30],[3,40,41,42]),([0,16],[3,43,46]),([0,38],[3,49,50,53]),([0,38,46],[3,49,66,67,70]),([0,38],[3,49,83,84,88]),([0,38],[3,49,99,100,104]),([0,38,39],[3,49,105,108,109,112]),([0,3,14,15,16,30,38,39,46,47,48,49,50,70,71,72,73,74],[3,4,7,10,13,16,19,22,25,40,41,42,43,46,49,50,53,66,67,70,83,84,88,99,100,104,109,112,115,116]),([0,3,14,15,16,30,38,39,46,47,48,49,50,69,70,71,72,73],[3,4,7,10,13,16,19,22,25,40,41,42,43,46,49,50,53,66,67,70,83,84,88,99,100,104,105,108,111,112]),([0],[2])]
def c29:List (List Nat×List Nat):=[([0,4],[2,5]),([4],[8,11]),([0,4,20,21,22,23,24],[2,5,8,11,24,26,37,38])]
def c30:List (List Nat×List Nat):=[([0,1,2,3],[2,6,7,8,55]),([0,1,2,4],[2,3,6]),([0,1,2],[2,3,6]),([0,1,2],[2,3,6]),([0,1],[0])]
def c31:List (List Nat×List Nat):=[([23],[2,3,6]),([23,31],[2,19,20,23]),([23],[2,36,37,41]),([23],[2,52,53,57]),([23,24],[2,58,61,62,65]),([14,23],[2,68,71]),([14,23,57],[2,86,87,88]),([14,23,24,31,57,64],[2,3,6,19,20,23,36,37,41,52,53,57,62,65,68,71,86,87,88,89,95,96,97]),([14,23],[2,64,67]),([14,23,56],[2,82,83,84]),([14,23,24,31,56,63],[2,3,6,19,20,23,36,37,41,52,53,57,58,61,64,67,82,83,84,85,91,92,93])]
def c32:List (List Nat×List Nat):=[([0,1],[0,3]),([],[]),([0,1,4,14],[6,20,25,26,30,31,32]),([0,1],[20,25,26,30]),([0,1,4],[4,5,6,15])]
def c41:List (List Nat×List Nat):=[([0,1,7],[0,1]),([0,1,8,9,10,11,12,13,16,17,18,19,20,21],[2,13,24,25,26]),([0,1,8],[2,13])]
def c65:List (List Nat×List Nat):=[([0,1],[0,3]),([],[]),([0,1,4,14],[6,20,25,26,30,31,32]),([0,1],[20,25,26,30]),([0,1,4],[4,5,6,15])]
def c66:List (List Nat×List Nat):=[([0,2],[0,3,6]),([0,2],[0,3])]
def c67:List (List Nat×List Nat):=[([0,1],[0,3]),([],[]),([0,1,4,20],[6,26,37,38,42,43,44]),([0,1],[26,37,38,42]),([0,1,4],[4,5,6,15])]
def c7:List (List Nat×List Nat):=[([0,6,11],[5,6,9]),([0,8,11],[5,12,13]),([0,9,11],[5,14,17]),([0,11],[5,20,23]),([0,11],[5,26,30]),([0,6,8,9,11],[5,6,9,12,13,14,17,20,23,26,30,41,52,63])]
def c70:List (List Nat×List Nat):=[([],[]),([6,10,14,15,16,17,18],[2,9,12,15,18,31,32,45]),([10],[2,15,18]),([6,10],[2,9,12])]
def c71:List (List Nat×List Nat):=[([],[]),([5,6,7,8,9,10,11,14,15,16,17,18,19],[0,19,20,21]),([5,6],[0,8])]
def c72:List (List Nat×List Nat):=[([],[]),([0,1,29,31],[0,58,59,60,61,62,63]),([0,1,29,32],[0,58,59,60,61,62,63,64]),([0,1],[0,11])]
def c75:List (List Nat×List Nat):=[([0,2],[0,3]),([1,3],[6,9]),([],[]),([1,3,7,16],[12,26,31,32,33,34,35]),([1,3,10,11,13,14],[26,31,32,33]),([0,1,2,3,7],[0,3,10,11,12,21])]
def c8:List (List Nat×List Nat):=[([0],[5,7,8,11]),([0,14],[5,7,14,17]),([0,25],[5,7,20,23]),([0,27],[5,7,26,29]),([0],[5,7,32,36]),([0,6,11],[5,37,40]),([0,8,11],[5,43,44]),([0,9,11],[5,45,48]),([0,11],[5,51,54]),([0,6,8,9,11,14,25,27,35],[5,7,8,11,14,17,20,23,26,29,32,36,37,40,43,44,45,48,51,54,67,78,89]),([0],[5,6])]
def c9:List (List Nat×List Nat):=[([0,5],[0,3]),([1,6],[6,9]),([2,7],[12,13]),([],[14,18]),([4,9],[19,22]),([],[]),([4,9,17,33],[25,45,56,57,61,62,63]),([4,9],[45,56,57,61]),([0,1,2,4,5,6,7,9,17],[0,3,6,9,12,13,14,18,23,24,25,34])]
def M:Nat:=1048576
def Lk:List K:=[.int .i64,.sl 88 false M]
def Vk:List K:=[.int .i64,.int .i64]
def Tk:List K:=[.int .i64,.int .i64,.str M,.sl 53 false M,.sl 26 false M]
def Trk:List K:=[.int .i64]++Tk++[.int .i64,.sl 274 false M]
def Ck:List K:=[.str M]++Tk
def Fk:List K:=[.str M]++Tk++[.int .i64]++Trk
def Bk:List K:=[.str M,.bool]++Trk
def Dk:List K:=[.int .i64,.str M,.int .i64]++Tk++Tk++[.int .i64,.sl 91 false M,.int .i64]++Tk++[.sl 26 false M,.sl 205 false M]
def Ek:List K:=[.int .i64,.int .i64,.int .i64,.int .i64]++Tk
def KD (e:TypeId) (_:Bool):List K:=cond (Nat.beq e 26) Tk (cond (Nat.beq e 53) Lk (cond (Nat.beq e 88) Vk (cond (Nat.beq e 49) Dk (cond (Nat.beq e 91) Ck (cond (Nat.beq e 205) Fk (cond (Nat.beq e 274) Bk (cond (Nat.beq e 9) [.str 1073741824] [])))))))
def i1:PK:=.one (.int .i64)
def b1:RK:=.one (.one .bool)
def Env:PK:=.one (.sl 49 false M)
def Ls:PK:=.one (.sl 53 false M)
def Ts:PK:=.one (.sl 26 false M)
def ZTG:Spc:={f:=126,ps:=[.one (.sl 88 false M),.one (.sl 88 false M)],r:=b1,post:=some ZEZ,cuts:=ZH5}
def s66:Spc:={f:=66,ps:=[.ag Lk,.ag Lk],r:=b1,post:=some ZEZ,cuts:=c66}
def s65:Spc:={f:=65,ps:=[Ls,Ls,.fc 66],r:=b1,post:=some ZEk,cuts:=c65}
def s67:Spc:={f:=67,ps:=[Ts,Ts,.fc 26],r:=b1,post:=some ZEk,lim:=some (0,0),cuts:=c67}
def s26:Spc:={f:=26,ps:=[.ag Tk,.ag Tk],r:=b1,post:=some ZEZ,lim:=some (0,4),cuts:=c26}
def s75:Spc:={f:=75,ps:=[.ag Lk,.ag Lk],r:=b1,post:=some ZEZ,cuts:=c75}
def s32:Spc:={f:=32,ps:=[Ls,Ls],r:=b1,post:=some ZEZ,cuts:=c32}
def s9:Spc:={f:=9,ps:=[.ag Tk,.ag Tk],r:=b1,post:=some ZEZ,lim:=some (0,4),cuts:=c9}
def tlR:RK:=.tup [.one (.sl 26 false maxLen),.ag Tk]
def s70:Spc:={f:=70,ps:=[.ag Tk],r:=tlR,post:=some ZKE,pre:=[(0,4,M)],cuts:=c70}
def s73:Spc:={f:=73,ps:=[.ag Tk],r:=tlR,post:=some ZKE,pre:=[(0,4,M)],cuts:=c70}
def s71:Spc:={f:=71,ps:=[.ag Tk,Ts],r:=.one (.ag Tk),post:=some ZL0,cuts:=c71}
def s38:Spc:={f:=38,ps:=[.ag Tk,Ts],r:=.one (.ag Tk),post:=some ZL0,cuts:=c71}
def s41:Spc:={f:=41,ps:=[i1,Ts,.ag Tk],r:=.one (.ag Tk),post:=some ZOc,cuts:=c41}
def s29:Spc:={f:=29,ps:=[.ag Tk],r:=b1,alts:=[{r:=.tup [.ag Tk,.one (.sl 26 false maxLen)],lin:=[(.l 1 1 0,.r 0 0 4,0)],post:=some spP,ap:=some 1}],lim:=some (0,4),pre:=[(0,4,M)],cuts:=c29}
def St:PK:=.one (.str 1073741824)
def SlS:PK:=.one (.sl 9 false maxLen)
def ZTI:Spc:={f:=128,ps:=[SlS,St],r:=b1,post:=some ZMq,cuts:=ZH6}
def ZTJ:Spc:={f:=129,ps:=[.ag Dk],r:=.one SlS,post:=some ZLB,cuts:=ZH7}
def ZTK:Spc:={f:=130,ps:=[.ag Dk,i1,St],r:=b1,alts:=[{r:=.one (.ag Ek),lin:=[(.v 3 0 1,.v 1 0 0,0),(.v 1 0 0,.v 3 0 1,0)],post:=some ZLy}],cuts:=c130}
def ZVA:List Alt:=[{r:=.tup [.ag Ek,.ci .i64 0],lin:=[(.v 2 0 1,.l 0 0 0, -1),(.z,.v 2 0 1,0)],post:=some ZKR},{r:=.tup [.ag Ek,.ci .i64 9],post:=some ZNg}]
def s72:Spc:={f:=72,ps:=[Env,St],r:=b1,alts:=ZVA,cuts:=c72}
def ZVz:List Alt:=[{r:=.tup [.ag Dk,i1,.tt true],lin:=[(.r 2 0 7,.r 0 0 0,0)],post:=some ZGQ},{r:=.tup [.ag Dk,i1,.tt false],post:=some ZGQ}]
def s30:Spc:={f:=30,ps:=[Env,St],r:=b1,alts:=ZVz,cuts:=c30}
def ZTH:Spc:={f:=127,ps:=[Env,St],r:=b1,alts:=ZVA,cuts:=c127}
def s69:Spc:={f:=69,ps:=[Env,St],r:=b1,alts:=ZVz,cuts:=c30}
def s31:Spc:={f:=31,ps:=[.ag Dk],r:=b1,post:=some ZK4,pre:=[(0,7,M)],cuts:=c31}
def s28:Spc:={f:=28,ps:=[Env],r:=b1,post:=some ZKQ,pre:=[(0,0,M)],cuts:=c28}
def ZVy:RK:=.tup [.ag Tk,.ag Tk,.ag Tk,.one (.sl 53 false M),.one .bool]
def s27:Spc:={f:=27,ps:=[.ag Tk],r:=b1,alts:=[{r:=.tup [.ag Tk,.one (.sl 26 false maxLen)],lin:=[(.l 1 1 0,.r 0 0 4,0)],post:=some spP}],pre:=[(0,4,M)]}
def s7:Spc:={f:=7,ps:=[Env,.ag Tk],r:=ZVy,post:=some ZGT,pre:=[(0,0,M),(1,4,M)],cuts:=c7}
def s8:Spc:={f:=8,ps:=[Env,.ag Tk],r:=ZVy,post:=some ZGT,pre:=[(0,0,M),(1,4,M)],cuts:=c8}
def lhs:List (Nat×Nat×(List V→Prop)×List LH):=[
 (126,4,ZKC 2,[.tm 0,.tm 1,.tm 13]),(65,4,ZKC 2,[.tm 0,.tm 1,.tm 17]),(67,4,ZKC 5,[.tm 0,.tm 1,.tm 17]),
 (75,4,ZLA 1 2,[.tm 0,.tm 1,.tm 5]),(32,4,ZKC 2,[.tm 0,.tm 1,.tm 5]),(9,4,ZLA 4 5,[.tm 0,.tm 1,.tm 5]),
 (70,2,ZLq,[.tm 0,.tm 4,.rw 1]),(73,2,ZLq,[.tm 0,.tm 4,.rw 1]),(71,2,ZLJ,[.tm 0,.tm 1,.tm 9,.rw 2]),(38,2,ZLJ,[.tm 0,.tm 1,.tm 5,.rw 2]),(41,2,ZNk,[.tm 0,.tm 1,.tm 2,.tm 7,.rw 5]),
 (128,2,ZOu,[.tm 0,.tm 1,.tm 5]),(129,9,ZLU 14 6,[.tm 0,.tm 4,.tm 3]),(129,16,ZLU 22 15,[.tm 0,.tm 6,.tm 5]),(72,2,ZKq,[.tm 0,.tm 1,.tm 6]),(127,2,ZKq,[.tm 0,.tm 1,.tm 12]),(243,11,ZLr 6,[.tm 42,.bk 0,.tm 44]),(243,18,ZLr 15,[.tm 78,.bk 0,.tm 80])]
def ZTj (f k:Nat):List (Nat×Nat×(List V→Prop)×List LH)→List ((List V→Prop)×List LH)
 |[]=> []
 |x::l=> cond (Nat.beq x.1 f && Nat.beq x.2.1 k) (x.2.2::ZTj f k l) (ZTj f k l)
def pls:List (Nat×Nat×Plan):=[
 (243,11,⟨[],[(44,(.one .idx),0)],[],[],[((.o .z),(.v 44 0),0),((.o (.v 5)),(.v 44 0),3),((.v 44 0),(.o (.l 19)),0),((.o (.v 5)),(.v 44 0),3),((.v 44 0),(.o (.l 19)),0),((.o (.v 5)),(.v 44 0),3)],[(19,91,44)],(.o (.l 19)),(.v 44 0),[]⟩),
 (243,18,⟨[],[(80,(.one .idx),0)],[],[],[((.o .z),(.v 80 0),0),((.o (.v 5)),(.v 80 0),4),((.v 80 0),(.o (.l 27)),0),((.o (.v 5)),(.v 80 0),4),((.v 80 0),(.o (.l 27)),0),((.o (.v 5)),(.v 80 0),4)],[(27,205,80)],(.o (.l 27)),(.v 80 0),[]⟩),
 (127,2,⟨[],[(12,(.one .idx),0)],[],[],[((.o .z),(.v 12 0),0),((.v 12 0),(.o (.l 0)),0),((.v 12 0),(.o (.l 0)),0)],[(0,49,12)],(.o (.l 0)),(.v 12 0),[]⟩)]
def ZXZ (f k:Nat):List (Nat×Nat×Plan)→Option Plan
 |[]=> none
 |x::l=> cond (Nat.beq x.1 f && Nat.beq x.2.1 k) (some x.2.2) (ZXZ f k l)
def inl:Inl:={l:=[74,21,10],mks:=[⟨189,243,.ag Dk,i1⟩],lh:=fun f k=> ZTj f k lhs,pl:=fun f k _=> ZXZ f k pls}
def Z2o (f:Nat):Option Nat→Bool
 |some d=> Nat.beq f 27 && Nat.beq d 20
 |none=> false
def hint0:Hint:={heap:=fun f=> Nat.beq f 6,rows:=Z2o,fix:=fun _ _=> []}
def ZKf:List CE:=[]
def ZTX:List CE:=ZTG.ce::ZKf
def ZT8:List CE:=s66.ce::ZTX
def ZRW:List CE:=s65.ce::ZT8
def Z2E:List CE:=s67.ce::ZRW
def ZUf:List CE:=s26.ce::Z2E
def ZUg:List CE:=s75.ce::ZUf
def ZUh:List CE:=s32.ce::ZUg
def ZUi:List CE:=s9.ce::ZUh
def ZUj:List CE:=s70.ce::ZUi
def ZTY:List CE:=s73.ce::ZUj
def ZTZ:List CE:=s71.ce::ZTY
def ZT0:List CE:=s38.ce::ZTZ
def ZT1:List CE:=s41.ce::ZT0
def ZT2:List CE:=s29.ce::ZT1
def ZT3:List CE:=ZTI.ce::ZT2
def ZT4:List CE:=ZTJ.ce::ZT3
def ZT5:List CE:=ZTK.ce::ZT4
def ZT6:List CE:=s72.ce::ZT5
def ZT7:List CE:=s30.ce::ZT6
def ZT9:List CE:=ZTH.ce::ZT7
def ZUa:List CE:=s69.ce::ZT9
def ZUb:List CE:=s31.ce::ZUa
def ZYF:List CE:=s28.ce::ZUb
def ZUc:List CE:=s27.ce::ZYF
def ZUd:List CE:=s7.ce::ZUc
def ZUe:List CE:=s8.ce::ZUd
theorem hKD (e:TypeId):(KD e true).length=(KD e false).length:=rfl
end
end
end Go.Proofs.YtapdblnejhijnaaGreat.Eq
end
