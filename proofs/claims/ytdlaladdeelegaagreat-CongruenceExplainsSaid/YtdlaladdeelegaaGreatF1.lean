/- The closure in plain Lean, as the code works. -/
import Derived.Test.YtdlaladdeelegaaGreatE3
set_option linter.all false
noncomputable section
namespace Go.Proofs.YtdlaladdeelegaaGreat.Cg
section
open Go Go.Ae
section
theorem ZEx:und Tryz.prog 27=.slice 3:=by kernel_rfl
theorem ZKh:und Tryz.prog 78=.slice 27:=by kernel_rfl
theorem ZE5:und Tryz.prog 80=.slice 126:=by kernel_rfl
theorem ZF7:und Tryz.prog 22=.slice 42:=by kernel_rfl
theorem ZHL:und Tryz.prog 39=.slice 4:=by kernel_rfl
theorem ZJx:und Tryz.prog 42=.array 2 3:=by kernel_rfl
theorem ZG2:und Tryz.prog 79=.map 170 3:=by kernel_rfl
theorem sz3:ZmI Tryz.prog 3=1:=by kernel_rfl
theorem sz4:ZmI Tryz.prog 4=1:=by kernel_rfl
theorem ZCz:ZmI Tryz.prog 27=1:=by kernel_rfl
theorem ZCx:ZmI Tryz.prog 42=2:=by kernel_rfl
theorem ZDr:ZmI Tryz.prog 80=1:=by kernel_rfl
theorem ZCR:ZmI Tryz.prog 126=3:=by kernel_rfl
theorem ZD8:ZmI Tryz.prog 170=2:=by kernel_rfl
theorem ok3:okT Tryz.prog 3=true:=by kernel_rfl
theorem ok4:okT Tryz.prog 4=true:=by kernel_rfl
theorem ZGZ:okT Tryz.prog 27=true:=by kernel_rfl
theorem ZJu:okT Tryz.prog 42=true:=by kernel_rfl
theorem ZHH:okT Tryz.prog 126=true:=by kernel_rfl
theorem ldA {t m:Nat} (h:ZDM Tryz.prog t=true) (hs:ZmI Tryz.prog t=m) (cs:List V):ZCC Tryz.prog t cs=if m≤cs.length then some (.agg (cs.take m)) else none:=by
 unfold ZCC;rw[h,hs];rfl
theorem ld1 {t:Nat} (h:ZDM Tryz.prog t=false) (h2:okU Tryz.prog t=true) (cs:List V):ZCC Tryz.prog t cs=cs.head?:=by
 unfold ZCC;rw[h,h2];rfl
theorem ZC2 (cs:List V):ZCC Tryz.prog 126 cs=if 3≤cs.length then some (.agg (cs.take 3)) else none:=ldA (by kernel_rfl) ZCR cs
theorem ZCB (cs:List V):ZCC Tryz.prog 42 cs=if 2≤cs.length then some (.agg (cs.take 2)) else none:=ldA (by kernel_rfl) ZCx cs
theorem ZEe (cs:List V):ZCC Tryz.prog 170 cs=if 2≤cs.length then some (.agg (cs.take 2)) else none:=ldA (by kernel_rfl) ZD8 cs
theorem ld3 (cs:List V):ZCC Tryz.prog 3 cs=cs.head?:=ld1 (by kernel_rfl) (by kernel_rfl) cs
theorem ld4 (cs:List V):ZCC Tryz.prog 4 cs=cs.head?:=ld1 (by kernel_rfl) (by kernel_rfl) cs
theorem ZCN (cs:List V):ZCC Tryz.prog 22 cs=cs.head?:=ld1 (by kernel_rfl) (by kernel_rfl) cs
theorem ZCG (cs:List V):ZCC Tryz.prog 27 cs=cs.head?:=ld1 (by kernel_rfl) (by kernel_rfl) cs
theorem ZDP (cs:List V):ZCC Tryz.prog 78 cs=cs.head?:=ld1 (by kernel_rfl) (by kernel_rfl) cs
theorem ZEf (cs:List V):ZCC Tryz.prog 79 cs=cs.head?:=ld1 (by kernel_rfl) (by kernel_rfl) cs
theorem ZDp (cs:List V):ZCC Tryz.prog 80 cs=cs.head?:=ld1 (by kernel_rfl) (by kernel_rfl) cs
abbrev nv (n:Nat):V:=.int .i64 (n:Int)
theorem addN {a b:Nat} (h:a+b < 4611686018427387904):ZmK .add .i64 (a:Int) .i64 (b:Int)=some (nv (a+b)):=by
 rw[zq,za4 (by omega) (by omega)];rfl
theorem add1 {a:Nat} (h:a < 4611686018427387904):ZmK .add .i64 (a:Int) .i64 1=some (nv (a+1)):=by
 rw[zq,za4 (by omega) (by omega)];rfl
theorem ZDT {a b:Nat} (h:b≤a) (ha:a < 4611686018427387904):ZmK .sub .i64 (a:Int) .i64 (b:Int)=some (nv (a - b)):=by
 rw[zB,za4 (by omega) (by omega),←Int.ofNat_sub h]
theorem eqN {a b:Nat}:ZmK .eql .i64 (a:Int) .i64 (b:Int)=some (.bool (decide (a=b))):=by
 rw[zz]
 congr 2
 by_cases h:a=b
 ·subst h;simp
 ·have:¬(a:Int)=(b:Int):=by omega
  simp[h,this]
theorem neN {a b:Nat}:ZmK .neq .i64 (a:Int) .i64 (b:Int)=some (.bool (decide (a≠b))):=by
 rw[zA]
 congr 2
 by_cases h:a=b
 ·subst h;simp
 ·have:¬(a:Int)=(b:Int):=by omega
  simp[h,this]
theorem ltN {a b:Nat}:ZmK .lss .i64 (a:Int) .i64 (b:Int)=some (.bool (decide (a < b))):=by
 rw[zo]
 congr 2
 simp[Int.ofNat_lt]
theorem gtN {a b:Nat}:ZmK .gtr .i64 (a:Int) .i64 (b:Int)=some (.bool (decide (b < a))):=by
 rw[zr]
 congr 2
 simp[Int.ofNat_lt]
theorem gt0 {a:Nat}:ZmK .gtr .i64 (a:Int) .i64 0=some (.bool (decide (0 < a))):=gtN (a:=a) (b:=0)
theorem ixv {t e z n len:Nat} {cs:List V} {sz:Nat} {o:Own} {k:IntKind} (hu:und Tryz.prog t=.slice e) (hz:ZmI Tryz.prog e=z) (hok:okT Tryz.prog e=true) (h:n < len):
 indexAddr Tryz.prog t (.vs cs len sz o) (.int k (n:Int))=some (.iptr (cs.drop (n * z))):=by
 unfold indexAddr
 simp only[asI,hu,hz,hok]
 rw[if_pos ⟨by omega,by omega,trivial⟩]
 simp
theorem ixh {t e z n len:Nat} {r off cap sz:Nat} {ex:Bool} {k:IntKind} (hu:und Tryz.prog t=.slice e) (hz:ZmI Tryz.prog e=z) (hok:okT Tryz.prog e=true) (h:n < len):
 indexAddr Tryz.prog t (.hs r off len cap sz ex) (.int k (n:Int))=some (.ptr r (off+n * z)):=by
 unfold indexAddr
 simp only[asI,hu,hz,hok]
 rw[if_pos ⟨by omega,by omega,trivial⟩]
 simp
section
variable {n len r off cap sz:Nat} {ex:Bool} {cs:List V} {o:Own} (h:n < len)
include h
theorem ZCK:indexAddr Tryz.prog 27 (.vs cs len sz o) (nv n)=some (.iptr (cs.drop n)):=by rw[ixv ZEx sz3 ok3 h,Nat.mul_one]
theorem ZCP:indexAddr Tryz.prog 27 (.hs r off len cap sz ex) (nv n)=some (.ptr r (off+n)):=by rw[ixh ZEx sz3 ok3 h,Nat.mul_one]
theorem ZDN:indexAddr Tryz.prog 78 (.hs r off len cap sz ex) (nv n)=some (.ptr r (off+n)):=by rw[ixh ZKh ZCz ZGZ h,Nat.mul_one]
theorem ZDo:indexAddr Tryz.prog 80 (.hs r off len cap sz ex) (nv n)=some (.ptr r (off+n * 3)):=ixh ZE5 ZCR ZHH h
theorem ZDZ:indexAddr Tryz.prog 80 (.vs cs len sz o) (nv n)=some (.iptr (cs.drop (n * 3))):=ixv ZE5 ZCR ZHH h
theorem ZCH:indexAddr Tryz.prog 22 (.vs cs len sz o) (nv n)=some (.iptr (cs.drop (n * 2))):=ixv ZF7 ZCx ZJu h
theorem ZEr:indexAddr Tryz.prog 39 (.hs r off len cap sz ex) (nv n)=some (.ptr r (off+n)):=by rw[ixh ZHL sz4 ok4 h,Nat.mul_one]
theorem ZEs:indexAddr Tryz.prog 39 (.vs cs len sz o) (nv n)=some (.iptr (cs.drop n)):=by rw[ixv ZHL sz4 ok4 h,Nat.mul_one]
end
theorem JR {p:V}:indexAddr Tryz.prog 42 p (.int .i64 0)=ZmN p 0:=by
 unfold indexAddr
 simp only[asI,ZJx,sz3,ok3]
 rw[if_pos ⟨by omega,by omega,trivial⟩];rfl
theorem JS {p:V}:indexAddr Tryz.prog 42 p (.int .i64 1)=ZmN p 1:=by
 unfold indexAddr
 simp only[asI,ZJx,sz3,ok3]
 rw[if_pos ⟨by omega,by omega,trivial⟩];rfl
theorem zRh {cs:List V} {len sz:Nat} {o:Own} (h:0 < len):indexAddr Tryz.prog 80 (.vs cs len sz o) (.int .i64 0)=some (.iptr cs):=by
 exact ZDZ (cs:=cs) (sz:=sz) (o:=o) h
def ints (l:List Nat):List V:=l.map nv
theorem Zu (l:List Nat):(ints l).length=l.length:=List.length_map _
theorem Zp {l:List Nat} {i k:Nat} (h:l[i]?=some k):((ints l).drop i).head?=some (nv k):=by
 rw[List.head?_drop];unfold ints;rw[List.getElem?_map,h];rfl
theorem zzg (l:List Nat) (i k:Nat):(ints l).set i (nv k)=ints (l.set i k):=by
 unfold ints;rw[List.map_set]
theorem zRd (l:List Nat):V.ones (ints l)=true:=by
 induction l with
 |nil=> rfl
 |cons a l ih=> exact ih
theorem zzf (l m:List Nat):ints l++ints m=ints (l++m):=(List.map_append).symm
theorem zRf (l:List Nat):V.seals (ints l)=ints l:=by
 induction l with
 |nil=> rfl
 |cons a l ih=> show V.shut (nv a)::V.seals (ints l)=_;rw[ih];rfl
theorem zRe (l:List Nat):V.pures (ints l)=true:=by
 induction l with
 |nil=> rfl
 |cons a l ih=> exact ih
def ont:Option Nat→V
 |none=> .int .i64 (-1)
 |some k=> nv k
def ZDb (l:List (Option Nat)):List V:=l.map ont
theorem zCC (l:List (Option Nat)):(ZDb l).length=l.length:=List.length_map _
theorem zX6 {l:List (Option Nat)} {i:Nat} {k:Option Nat} (h:l[i]?=some k):((ZDb l).drop i).head?=some (ont k):=by
 rw[List.head?_drop];unfold ZDb;rw[List.getElem?_map,h];rfl
theorem zX7 (l:List (Option Nat)) (i k:Nat):(ZDb l).set i (nv k)=ZDb (l.set i (some k)):=by
 unfold ZDb;rw[List.map_set];rfl
abbrev Zm0:=Nat×Nat×Int
def tri (s:Zm0):List V:=[nv s.1,nv s.2.1,.int .i64 s.2.2]
def ZCq (l:List Zm0):List V:=l.flatMap tri
theorem zkr (l:List Zm0):(ZCq l).length=l.length * 3:=by
 induction l with
 |nil=> rfl
 |cons a l ih=> show(tri a++ZCq l).length=_;rw[List.length_append,ih];simp[tri];omega
theorem zOV:∀{l:List Zm0} {i:Nat} {s:Zm0},l[i]?=some s→(ZCq l).drop (i * 3)=tri s++ZCq (l.drop (i+1))
 |[],i,s,h=> by simp at h
 |a::l,0,s,h=> by simp at h;subst h;rfl
 |a::l,i+1,s,h=> by
  simp only[List.getElem?_cons_succ] at h
  have e:(ZCq (a::l)).drop ((i+1) * 3)=(ZCq l).drop (i * 3):=by
   show(nv a.1::nv a.2.1::.int .i64 a.2.2::ZCq l).drop ((i+1) * 3)=_
   rw[show(i+1) * 3=i * 3+1+1+1 by omega]
   simp only[List.drop_succ_cons]
  rw[e,zOV h];rfl
theorem zZb {l:List Zm0} {i:Nat} {s:Zm0} (h:l[i]?=some s):ZCC Tryz.prog 126 ((ZCq l).drop (i * 3))=some (.agg (tri s)):=by
 rw[ZC2,zOV h,if_pos (by simp[tri])];rfl
theorem zOW:∀{l:List Zm0} {i:Nat} (s:Zm0),i < l.length→splice (ZCq l) (tri s) (i * 3)=some (ZCq (l.set i s))
 |[],i,s,h=> by cases h
 |a::l,0,s,h=> by
  show splice (nv a.1::nv a.2.1::.int .i64 a.2.2::ZCq l) (tri s) 0=_
  unfold splice
  rw[if_pos (by simp[tri])];rfl
 |a::l,i+1,s,h=> by
  have ih:=zOW (l:=l) (i:=i) s (by simpa using h)
  unfold splice at ih⊢
  have hl:=zkr l
  have hl2:=zkr (a::l)
  have ht:(tri s).length=3:=rfl
  simp only[List.length_cons] at h hl2
  rw[if_pos (by omega)] at ih
  rw[if_pos (by omega)]
  have ih:=Option.some.inj ih
  congr 1
  show _=tri a++ZCq (l.set i s)
  rw[←ih]
  show List.take ((i+1) * 3) (nv a.1::nv a.2.1::.int .i64 a.2.2::ZCq l)++tri s++List.drop ((i+1) * 3+(tri s).length) (nv a.1::nv a.2.1::.int .i64 a.2.2::ZCq l)=_
  rw[show(i+1) * 3=i * 3+1+1+1 by omega,show i * 3+1+1+1+(tri s).length=i * 3+(tri s).length+1+1+1 by omega]
  simp only[List.take_succ_cons,List.drop_succ_cons,List.cons_append]
  rfl
theorem zaV {cs:List V} {v:V} {i:Nat} (h:i < cs.length):splice cs [v] i=some (cs.set i v):=by
 unfold splice
 rw[if_pos (by simp only[List.length_cons,List.length_nil];omega),List.set_eq_take_append_cons_drop,if_pos h]
 simp
end
section
abbrev Key:=Nat×Nat
abbrev ZDx:=List (Key×Nat)
def ZCL:ZDx→Key→Option Nat
 |[],_=> none
 |e::l,k=> if e.1=k then some e.2 else ZCL l k
def ZCS:ZDx→Key→Nat→ZDx
 |[],k,t=> [(k,t)]
 |e::l,k,t=> if e.1=k then (k,t)::l else e::ZCS l k t
structure Cl where
 cls:List Nat
 mem:List (List Nat)
 use:List (List Nat)
 tab:ZDx
 nxt:List (Option Nat)
 why:List Zm0
def ZDR:Nat→Option Nat→Nat→Zm0→Cl→Option Cl
 |0,_,_,_,_=> none
 |_+1,none,_,_,S=> some S
 |f+1,some t,nx,w,S=> match S.nxt[t]?,S.why[t]? with
  |some old,some reason=> ZDR f old t reason {S with nxt:=S.nxt.set t (some nx),why:=S.why.set t w}
  |_,_=> none
def ZF1:List Nat→Nat→List Nat→Option (List Nat)
 |[],_,cls=> some cls
 |t::l,y,cls=> if t < cls.length then ZF1 l y (cls.set t y) else none
def ZEt (m:Nat) (apps:List Key) (cls:List Nat) (t:Nat):Option Key:=
 if m≤t then match apps[t - m]? with
  |some p=> match cls[p.1]?,cls[p.2]? with
   |some x,some y=> some (x,y)
   |_,_=> none
  |none=> none
 else none
def ZEu (m:Nat) (apps:List Key):List Nat→Cl→List Zm0→Option (Cl×List Zm0)
 |[],S,p=> some (S,p)
 |t::l,S,p=> match ZEt m apps S.cls t with
  |none=> none
  |some k=> match ZCL S.tab k with
   |some o=> match S.cls[o]?,S.cls[t]? with
    |some co,some ct=> if co≠ct then (if p.length < 100000 then ZEu m apps l S (p++[(t,o, -1)]) else none) else ZEu m apps l {S with tab:=ZCS S.tab k t} p
    |_,_=> none
   |none=> ZEu m apps l {S with tab:=ZCS S.tab k t} p
def ZEX (m:Nat) (apps:List Key) (f x y:Nat) (s:Zm0) (S:Cl) (p:List Zm0):Option (Cl×List Zm0):=
 match ZDR f (some s.1) s.2.1 s S with
 |none=> none
 |some S1=> match S1.mem[x]?,S1.mem[y]?,S1.use[x]?,S1.use[y]? with
  |some mx,some my,some ux,some uy=> if (my++mx).length < 100000∧(uy++ux).length < 100000 then match ZF1 mx y S1.cls with
   |some cls=> ZEu m apps ux {S1 with cls:=cls,mem:=(S1.mem.set y (my++mx)).set x [],use:=(S1.use.set x []).set y (uy++ux)} p
   |none=> none
   else none
  |_,_,_,_=> none
def ZEj (m:Nat) (apps:List Key):Nat→Cl→List Zm0→Option Cl
 |0,_,_=> none
 |_+1,S,[]=> some S
 |f+1,S,s::p=> match S.cls[s.1]?,S.cls[s.2.1]? with
  |some x,some y=> if x=y then ZEj m apps f S p else match S.mem[x]?,S.mem[y]? with
   |some mx,some my=> match (if my.length < mx.length then ZEX m apps f y x (s.2.1,s.1,s.2.2) S p else ZEX m apps f x y s S p) with
    |some (S',p')=> ZEj m apps f S' p'
    |none=> none
   |_,_=> none
  |_,_=> none
def ZFU (m:Nat) (apps:List Key) (f:Nat) (S:Cl) (t:Nat):Option Cl:=
 match ZEt m apps S.cls t with
 |none=> none
 |some k=> match ZCL S.tab k with
  |some o=> ZEj m apps f S [(t,o, -1)]
  |none=> some {S with tab:=ZCS S.tab k t}
def ZDz (k:Key):V:=.agg [nv k.1,nv k.2]
def ZmO (l:ZDx):List (V×V):=l.map fun e=> (ZDz e.1,nv e.2)
theorem zQs (l m:ZDx):ZmO l++ZmO m=ZmO (l++m):=(List.map_append).symm
def ZIF (d:TypeDesc):Bool:=match d with
 |.struct ⟨[f1,f2]⟩=> decide (f1.name≠ "_") && decide (f2.name≠ "_") && decide (f1.type=3) && decide (f2.type=3) && decide (f1.offset=0) && decide (f2.offset=1)
 |_=> false
theorem ZKg:∃f1 f2:Field,und Tryz.prog 170=.struct ⟨[f1,f2]⟩∧f1.name≠ "_"∧f2.name≠ "_"∧f1.type=3∧f2.type=3∧f1.offset=0∧f2.offset=1:=by
 have h:ZIF (und Tryz.prog 170)=true:=by kernel_rfl
 unfold ZIF at h
 split at h
 ·rename_i f1 f2 he
  simp only[Bool.and_eq_true,decide_eq_true_eq] at h
  exact⟨f1,f2,he,h.1.1.1.1.1,h.1.1.1.1.2,h.1.1.1.2,h.1.1.2,h.1.2,h.2⟩
 ·cases h
theorem ZJI:Tryz.prog.stoodInHeld 170=false:=by kernel_rfl
theorem ZKi:∃k,und Tryz.prog 3=.int k:=⟨.i64,by kernel_rfl⟩
theorem eqI (d:Nat) (a b:Nat):eqV Tryz.prog (d+1) 3 (nv a) (nv b)=some (decide (a=b)):=by
 obtain⟨k,hk⟩:=ZKi
 unfold eqV
 simp only[hk]
 by_cases h:a=b
 ·subst h;simp
 ·have:((a:Int)==(b:Int))=false:=by simpa using fun hh=> h (by omega)
  simp[this,h]
theorem eqK (x y x' y':Nat):eqV Tryz.prog 100 170 (.agg [nv x,nv y]) (.agg [nv x',nv y'])=some (decide (x=x') && decide (y=y')):=by
 obtain⟨f1,f2,h1,n1,n2,t1,t2,o1,o2⟩:=ZKg
 unfold eqV
 simp only[h1,ZJI,Bool.false_eq_true,if_false,List.foldr,n1,n2,ne_eq,not_false_eq_true,if_true,t1,t2,o1,o2,List.drop,ld3,List.head?,eqI]
 cases decide (x=x') <;> cases decide (y=y') <;> rfl
theorem ZIG (k k':Key):eqV Tryz.prog 100 170 (ZDz k) (ZDz k')=some (decide (k'=k)):=by
 obtain⟨x,y⟩:=k
 obtain⟨x',y'⟩:=k'
 unfold ZDz
 rw[eqK]
 congr 1
 rw[Bool.eq_iff_iff]
 simp only[Bool.and_eq_true,decide_eq_true_eq,Prod.mk.injEq]
 exact⟨fun h=> ⟨h.1.symm,h.2.symm⟩,fun h=> ⟨h.1.symm,h.2.symm⟩⟩
theorem zCu (k:Key):ZEd Tryz.prog 170 (ZDz k)=true:=by
 obtain⟨x,y⟩:=k
 show ZEd Tryz.prog 170 (.agg [nv x,nv y])=true
 kernel_rfl
theorem zOO {l:ZDx} {k:Key}:ZCL l k=none↔k∉l.map (·.1):=by
 induction l with
 |nil=> simp[ZCL]
 |cons e l ih=>
  unfold ZCL
  by_cases h:e.1=k
  ·rw[if_pos h];simp[h]
  ·rw[if_neg h,ih];simp only[List.map_cons,List.mem_cons,not_or];exact⟨fun hh=> ⟨fun h'=> h h'.symm,hh⟩,fun hh=> hh.2⟩
theorem zy1 {l:ZDx} {k:Key} (h:ZCL l k=none) (j:Nat):ZCU Tryz.prog 170 (ZDz k) (ZmO l) j=some none:=by
 rw[zkP]
 intro p hp
 obtain⟨e,he,rfl⟩:=List.mem_map.1 hp
 rw[ZIG]
 have:e.1≠k:=fun hh=> zOO.1 h (hh ▸ List.mem_map_of_mem he)
 simp[this]
theorem zQE (k:V) (e:Key×Nat) (l:ZDx) (j:Nat):ZCU Tryz.prog 170 k (ZmO (e::l)) j=match eqV Tryz.prog 100 170 k (ZDz e.1) with
 |some true=> match ZCU Tryz.prog 170 k (ZmO l) (j+1) with
  |some none=> some (some (j,nv e.2))
  |_=> none
 |some false=> ZCU Tryz.prog 170 k (ZmO l) (j+1)
 |none=> none:=by
 show ZCU Tryz.prog 170 k ((ZDz e.1,nv e.2)::ZmO l) j=_
 rw[ZCU]
 cases eqV Tryz.prog 100 170 k (ZDz e.1) with
 |none=> rfl
 |some b=>
  cases b with
  |false=> rfl
  |true=>
   simp only
   cases ZCU Tryz.prog 170 k (ZmO l) (j+1) with
   |none=> rfl
   |some x=> cases x <;> rfl
theorem zy3 {k:Key} {o:Nat}:∀{l:ZDx},(l.map (·.1)).Nodup→ZCL l k=some o→∀(j:Nat),∃i,ZCU Tryz.prog 170 (ZDz k) (ZmO l) j=some (some (j+i,nv o))∧(ZmO l)[i]?=some (ZDz k,nv o)∧∀t,ZmO (ZCS l k t)=(ZmO l).set i (ZDz k,nv t)
 |[],_,h,_=> by cases h
 |e::l,hn,h,j=> by
  rw[List.map_cons,List.nodup_cons] at hn
  unfold ZCL at h
  rw[zQE]
  rw[ZIG]
  by_cases hk:e.1=k
  ·rw[if_pos hk] at h
   have ho:=Option.some.inj h
   have hnone:ZCL l k=none:=zOO.2 (hk ▸ hn.1)
   refine⟨0,?_,?_,fun t=> ?_⟩
   ·simp only[hk,decide_true]
    rw[zy1 hnone]
    simp[ho]
   ·show some (ZDz e.1,nv e.2)=_;rw[hk,ho]
   ·show ZmO (if e.1=k then (k,t)::l else e::ZCS l k t)=_
    rw[if_pos hk];rfl
  ·rw[if_neg hk] at h
   obtain⟨i,h1,h2,h3⟩:=zy3 hn.2 h (j+1)
   refine⟨i+1,?_,?_,fun t=> ?_⟩
   ·simp only[hk,decide_false]
    rw[h1]
    simp only[Option.some.injEq,Prod.mk.injEq,and_true]
    omega
   ·show(ZmO l)[i]?=_;exact h2
   ·show ZmO (if e.1=k then (k,t)::l else e::ZCS l k t)=_
    rw[if_neg hk]
    show(ZDz e.1,nv e.2)::ZmO (ZCS l k t)=_
    rw[h3];rfl
theorem zY4 {l:ZDx} {k:Key} {t:Nat} (h:ZCL l k=none):ZCS l k t=l++[(k,t)]:=by
 induction l with
 |nil=> rfl
 |cons e l ih=>
  unfold ZCL at h
  split at h
  ·cases h
  ·rename_i hk
   unfold ZCS
   rw[if_neg hk,ih h];rfl
theorem zY3 (l:ZDx) (k:Key) (t:Nat):(ZCS l k t).map (·.1)=if k∈l.map (·.1) then l.map (·.1) else l.map (·.1)++[k]:=by
 induction l with
 |nil=> simp[ZCS]
 |cons e l ih=>
  unfold ZCS
  by_cases hk:e.1=k
  ·rw[if_pos hk,if_pos (by simp[hk])];simp[hk]
  ·rw[if_neg hk,List.map_cons,ih]
   by_cases hm:k∈l.map (·.1)
   ·rw[if_pos hm,if_pos (by simp only[List.map_cons,List.mem_cons];exact .inr hm)];rfl
   ·rw[if_neg hm,if_neg (by simp only[List.map_cons,List.mem_cons,not_or];exact⟨fun h=> hk h.symm,hm⟩)];rfl
theorem zC4 {l:ZDx} {k:Key} {t:Nat} (h:(l.map (·.1)).Nodup):((ZCS l k t).map (·.1)).Nodup:=by
 rw[zY3]
 split
 ·exact h
 ·rename_i hk
  rw[List.nodup_append]
  exact⟨h,by simp,fun a ha b hb=> by simp at hb;subst hb;rintro rfl;exact hk ha⟩
theorem ZHM:zeroOf Tryz.prog 3=some (.int .i64 0):=by kernel_rfl
section
variable {get:Nat→Blk} {r ver:Nat} {l:ZDx} {k:Key}
theorem zNG {o:Nat} (hg:get r=.map (ZmO l) ver) (hn:(l.map (·.1)).Nodup) (h:ZCL l k=some o):lookup Tryz.prog get 79 (.map r) (ZDz k) true=some {v:=.tup [nv o,.bool true],rd:=[r]}:=by
 obtain⟨i,h1,_⟩:=zy3 hn h 0
 unfold lookup
 simp only[ZG2,mapOf,hg,zCu,if_true,h1]
theorem zNF (hg:get r=.map (ZmO l) ver) (h:ZCL l k=none):lookup Tryz.prog get 79 (.map r) (ZDz k) true=some {v:=.tup [.int .i64 0,.bool false],rd:=[r]}:=by
 unfold lookup
 simp only[ZG2,mapOf,hg,zCu,if_true,zy1 h,ZHM]
theorem ZHE {t:Nat} (hg:get r=.map (ZmO l) ver) (hn:(l.map (·.1)).Nodup):mapUpdate Tryz.prog get 79 (.map r) (ZDz k) (nv t)=some {v:=ZmM,rd:=[r],wr:=[(r,.map (ZmO (ZCS l k t)) (ver+1))]}:=by
 unfold mapUpdate
 simp only[ZG2,hg,zCu,if_true]
 cases h:ZCL l k with
 |none=>
  simp only[zy1 h]
  rw[zY4 h,←zQs];rfl
 |some o=>
  obtain⟨i,h1,h2,h3⟩:=zy3 hn h 0
  rw[Nat.zero_add] at h1
  simp only[h1,h2]
  rw[if_pos,h3]
  obtain⟨x,y⟩:=k
  show sameKey (.agg [nv x,nv y]) (.agg [nv x,nv y])=true
  simp[sameKey,ZF0,ZFZ]
end
def ZFT (r:Nat) (b:Blk) (k:V):Option Eff:=lookup Tryz.prog (fun _=> b) 79 (.map r) k true
theorem za0 {get:Nat→Blk} {r:Nat} {k:V}:lookup Tryz.prog get 79 (.map r) k true=ZFT r (get r) k:=by
 simp only[ZFT,lookup,mapOf]
def ZGp (r:Nat) (b:Blk) (k v:V):Option Eff:=mapUpdate Tryz.prog (fun _=> b) 79 (.map r) k v
theorem za1 {get:Nat→Blk} {r:Nat} {k v:V}:mapUpdate Tryz.prog get 79 (.map r) k v=ZGp r (get r) k v:=by
 simp only[ZGp,mapUpdate,ZG2]
def prs (l:List Key):List V:=l.flatMap fun p=> [nv p.1,nv p.2]
theorem zCI:∀{l:List Key} {i:Nat} {p:Key},l[i]?=some p→(prs l).drop (i * 2)=nv p.1::nv p.2::prs (l.drop (i+1))
 |[],i,p,h=> by simp at h
 |a::l,0,p,h=> by simp at h;subst h;rfl
 |a::l,i+1,p,h=> by
  simp only[List.getElem?_cons_succ] at h
  have e:(prs (a::l)).drop ((i+1) * 2)=(prs l).drop (i * 2):=by
   show(nv a.1::nv a.2::prs l).drop ((i+1) * 2)=_
   rw[show(i+1) * 2=i * 2+1+1 by omega]
   simp only[List.drop_succ_cons]
  rw[e,zCI h];rfl
theorem zjj {l:List Key} {i:Nat} {p:Key} (h:l[i]?=some p):ZCC Tryz.prog 42 ((prs l).drop (i * 2))=some (.agg [nv p.1,nv p.2]):=by
 rw[ZCB,zCI h,if_pos (by simp)];rfl
def Fr (X:List Nat) (nb:Nat) (g g':Nat→Blk):Prop:=∀r,r < nb→r∉X→g' r=g r
theorem Fr.refl (X:List Nat) (nb:Nat) (g:Nat→Blk):Fr X nb g g:=fun _ _ _=> rfl
theorem Fr.trans {X Y:List Nat} {nb nb':Nat} {g g' g'':Nat→Blk} (h:Fr X nb g g') (h':Fr Y nb' g' g'') (hn:nb≤nb'):Fr (X++Y) nb g g'':=fun r hr hx=> by
 rw[List.mem_append,not_or] at hx
 rw[h' r (by omega) hx.2,h r hr hx.1]
def SlR (g:Nat→Blk) (lo nb:Nat) (v:V) (l:List Nat):Prop:=
 (v=.nils∧l=[])∨v=.vs (ints l) l.length 1 .tight∨∃r,v=.vs (ints l) l.length 1 (.tok r l.length)∧lo≤r∧r < nb∧g r=.tok l.length
def ZCj:V→Option Nat
 |.vs _ _ _ (.tok r _)=> some r
 |_=> none
def PdR (g:Nat→Blk) (lo nb:Nat) (v:V) (p:List Zm0):Prop:=
 v=.vs (ZCq p) p.length 3 .tight∨∃r e,v=.vs (ZCq p) p.length 3 (.tok r e)∧lo≤r∧r < nb∧g r=.tok e
theorem zC7 (l m:List Zm0):ZCq l++ZCq m=ZCq (l++m):=List.flatMap_append.symm
theorem zOU (s:Zm0):V.pures (V.seals (tri s))=true:=rfl
theorem ZFW:okZ Tryz.prog 126=true:=by kernel_rfl
theorem ZG0:okU Tryz.prog 80=true:=by kernel_rfl
theorem ZJD:bytesOf Tryz.prog 126=24:=by kernel_rfl
theorem ZG1 {m:Nat} (h:m < 1000000):ZD4 Tryz.prog 126 m:=by unfold ZD4;rw[ZJD];omega
theorem ZJy {get:Nat→Blk} {nid:Nat} {p:List Zm0} {s:Zm0} (h:p.length < 100000):
 ZmL Tryz.prog false get nid .append [80,80] [.vs (ZCq p) p.length 3 .tight,.vs (tri s) 1 3 .tight]=some {v:=.vs (ZCq (p++[s])) (p.length+1) 3 (.tok nid (p.length+1)),nw:=[.tok (p.length+1)]}:=by
 have h1:V.ones (tri s)=true:=rfl
 have h2:(tri s).length=3:=rfl
 simp only[ZmL,ZE5,ZG0,ZFW,ZC9,ZCR,h1,h2,Bool.true_eq_false,Bool.false_eq_true,or_self,if_false,Nat.one_mul,ne_eq,not_true_eq_false,Nat.succ_ne_self,reduceCtorEq,Nat.one_ne_zero]
 unfold ZCY
 simp only[ZFW,ZCR,zOU]
 rw[if_neg (by simp),if_pos ⟨trivial,ZG1 (by omega)⟩]
 simp only[Bool.true_and,Bool.not_false,if_true]
 rw[show V.seals (tri s)=tri s from rfl,show ZCq p++tri s=ZCq (p++[s]) by rw[←zC7];simp[ZCq]]
theorem ZJz {get:Nat→Blk} {nid r e:Nat} {p:List Zm0} {s:Zm0} (h:p.length < 100000) (hg:get r=.tok e):
 ZmL Tryz.prog false get nid .append [80,80] [.vs (ZCq p) p.length 3 (.tok r e),.vs (tri s) 1 3 .tight]=some {v:=.vs (ZCq (p++[s])) (p.length+1) 3 (.tok r (e+1)),rd:=[r],wr:=[(r,.tok (e+1))]}:=by
 have h1:V.ones (tri s)=true:=rfl
 have h2:(tri s).length=3:=rfl
 simp only[ZmL,ZE5,ZG0,ZFW,ZC9,ZCR,h1,h2,Bool.true_eq_false,Bool.false_eq_true,or_self,if_false,Nat.one_mul,ne_eq,not_true_eq_false,Nat.succ_ne_self,reduceCtorEq,Nat.one_ne_zero]
 unfold ZCY
 simp only[ZFW,ZCR,zOU,hg]
 rw[if_neg (by simp),if_pos ⟨trivial,ZG1 (by omega)⟩]
 simp only[Bool.true_and,Bool.not_false,if_true]
 rw[show V.seals (tri s)=tri s from rfl,show ZCq p++tri s=ZCq (p++[s]) by rw[←zC7];simp[ZCq]]
def ZF9 (ts:List TypeId) (b:Blk) (nid:Nat) (cs:List V) (len z r e:Nat) (y:V):Option Eff:=ZmL Tryz.prog false (fun _=> b) nid .append ts [.vs cs len z (.tok r e),y]
theorem zac {get:Nat→Blk} {t u nid len z r e n' z':Nat} {cs cs':List V} {o':Own}:ZmL Tryz.prog false get nid .append [t,u] [.vs cs len z (.tok r e),.vs cs' n' z' o']=ZF9 [t,u] (get r) nid cs len z r e (.vs cs' n' z' o'):=by
 simp only[ZF9,ZmL,ZC9,ZCY]
theorem PdR.keep {X:List Nat} {nb nb' lo:Nat} {g g':Nat→Blk} {v:V} {p:List Zm0} (h:PdR g lo nb v p) (hn:nb≤nb') (hf:Fr X nb g g') (hX:∀r∈X,∀hw,g r≠.tok hw):PdR g' lo nb' v p:=by
 rcases h with h|⟨r,e,h1,h2,h3,h4⟩
 ·exact .inl h
 ·exact .inr ⟨r,e,h1,h2,by omega,by rw[hf r h3 fun hx=> hX r hx _ h4];exact h4⟩
structure Ids where
 c:Nat
 rc:Nat
 rm:Nat
 ru:Nat
 rt:Nat
 rn:Nat
 rw:Nat
def Ids.all (I:Ids):List Nat:=[I.c,I.rc,I.rm,I.ru,I.rt,I.rn,I.rw]
theorem Ids.ne {I:Ids} (h:I.all.Nodup):I.c≠I.rc∧I.c≠I.rm∧I.c≠I.ru∧I.c≠I.rt∧I.c≠I.rn∧I.c≠I.rw∧I.rc≠I.rm∧I.rc≠I.ru∧I.rc≠I.rt∧I.rc≠I.rn∧I.rc≠I.rw∧I.rm≠I.ru∧I.rm≠I.rt∧I.rm≠I.rn∧I.rm≠I.rw∧I.ru≠I.rt∧I.ru≠I.rn∧I.ru≠I.rw∧I.rt≠I.rn∧I.rt≠I.rw∧I.rn≠I.rw:=by
 simp only[Ids.all,List.nodup_cons,List.mem_cons,List.not_mem_nil,not_or,or_false] at h
 simp only[ne_eq]
 simp only[h,not_false_eq_true,and_self]
theorem Ids.ne' {I:Ids} (h:I.all.Nodup):I.rc≠I.c∧I.rm≠I.c∧I.ru≠I.c∧I.rt≠I.c∧I.rn≠I.c∧I.rw≠I.c∧I.rm≠I.rc∧I.ru≠I.rc∧I.rt≠I.rc∧I.rn≠I.rc∧I.rw≠I.rc∧I.ru≠I.rm∧I.rt≠I.rm∧I.rn≠I.rm∧I.rw≠I.rm∧I.rt≠I.ru∧I.rn≠I.ru∧I.rw≠I.ru∧I.rn≠I.rt∧I.rw≠I.rt∧I.rw≠I.rn:=by
 have:=Ids.ne h
 simp only[ne_eq,eq_comm] at this⊢
 simp only[this,not_false_eq_true,and_self]
def ZGu (vm vu:List V):Prop:=∀(a b:Bool) (i j r:Nat),((cond a vm vu)[i]?).bind ZCj=some r→((cond b vm vu)[j]?).bind ZCj=some r→a=b∧i=j
theorem ZGu.set {vm vu:List V} (h:ZGu vm vu) {nb:Nat} (hb:∀(a:Bool) (i r:Nat),((cond a vm vu)[i]?).bind ZCj=some r→r < nb) (a:Bool) {y:Nat} {old v':V} (ho:(cond a vm vu)[y]?=some old) (hv:∀r,ZCj v'=some r→ZCj old=some r∨nb≤r):
 ZGu (cond a (vm.set y v') vm) (cond a vu (vu.set y v')):=by
 have sel:∀(b:Bool),cond b (cond a (vm.set y v') vm) (cond a vu (vu.set y v'))=if b=a then (cond b vm vu).set y v' else cond b vm vu:=by
  intro b;cases a <;> cases b <;> rfl
 have look:∀(b:Bool) (i r:Nat),((cond b (cond a (vm.set y v') vm) (cond a vu (vu.set y v')))[i]?).bind ZCj=some r→(b=a∧i=y∧ZCj v'=some r)∨((cond b vm vu)[i]?).bind ZCj=some r∧¬(b=a∧i=y):=by
  intro b i r hh
  rw[sel] at hh
  by_cases hba:b=a
  ·subst hba
   rw[if_pos rfl,List.getElem?_set] at hh
   by_cases hiy:y=i
   ·subst hiy
    rw[if_pos rfl] at hh
    split at hh
    ·exact .inl ⟨rfl,rfl,hh⟩
    ·cases hh
   ·rw[if_neg hiy] at hh
    exact .inr ⟨hh,fun h=> hiy h.2.symm⟩
  ·rw[if_neg hba] at hh
   exact .inr ⟨hh,fun h=> hba h.1⟩
 have clash:∀(b:Bool) (i r:Nat),ZCj v'=some r→((cond b vm vu)[i]?).bind ZCj=some r→b=a∧i=y:=by
  intro b i r h1 h2
  rcases hv r h1 with q|q
  ·exact h b a i y r h2 (by rw[ho];exact q)
  ·have:=hb b i r h2;omega
 intro b c i j r h1 h2
 rcases look b i r h1 with ⟨rfl,rfl,q1⟩|⟨q1,n1⟩ <;> rcases look c j r h2 with ⟨rfl,rfl,q2⟩|⟨q2,n2⟩
 ·exact⟨rfl,rfl⟩
 ·exact absurd (clash c j r q1 q2) n2
 ·exact absurd (clash b i r q2 q1) n1
 ·exact h b c i j r q1 q2
structure CL (I:Ids) (lo n m:Nat) (apps:V) (S:Cl) (vm vu:List V) (nb:Nat) (g:Nat→Blk):Prop where
 c:g I.c=.row 0 [nv m,apps,.hs I.rc 0 n n 1 false,.hs I.rm 0 n n 1 true,.hs I.ru 0 n n 1 true,.map I.rt,.hs I.rn 0 n n 1 false,.hs I.rw 0 n n 3 false]
 rc:g I.rc=.row 0 (ints S.cls)
 rm:g I.rm=.row 0 vm
 ru:g I.ru=.row 0 vu
 rt:∃ver,g I.rt=.map (ZmO S.tab) ver
 rn:g I.rn=.row 0 (ZDb S.nxt)
 rw:g I.rw=.row 0 (ZCq S.why)
 lc:S.cls.length=n
 lm:vm.length=n
 lu:vu.length=n
 ln:S.nxt.length=n
 lw:S.why.length=n
 km:S.mem.length=n
 ku:S.use.length=n
 keys:(S.tab.map (·.1)).Nodup
 nd:I.all.Nodup
 lt:∀r∈I.all,lo≤r∧r < nb
 sm:∀(i:Nat) (v:V) (l:List Nat),vm[i]?=some v→S.mem[i]?=some l→SlR g lo nb v l
 su:∀(i:Nat) (v:V) (l:List Nat),vu[i]?=some v→S.use[i]?=some l→SlR g lo nb v l
 tk:ZGu vm vu
theorem SlR.keep {X:List Nat} {nb nb' lo:Nat} {g g':Nat→Blk} {v:V} {l:List Nat} (h:SlR g lo nb v l) (hn:nb≤nb') (hf:Fr X nb g g') (hX:∀r∈X,∀hw,g r≠.tok hw):SlR g' lo nb' v l:=by
 rcases h with h|h|⟨r,h1,h2,h3,h4⟩
 ·exact .inl h
 ·exact .inr (.inl h)
 ·exact .inr (.inr ⟨r,h1,h2,by omega,by rw[hf r h3 fun hx=> hX r hx _ h4];exact h4⟩)
theorem CL.next {I:Ids} {lo n m:Nat} {apps:V} {A A':Cl} {vm vu:List V} {nb nb':Nat} {g g':Nat→Blk} (h:CL I lo n m apps A vm vu nb g) (hn:nb≤nb') (hf:Fr [I.rn,I.rw] nb g g')
 (q1:g' I.rn=.row 0 (ZDb A'.nxt)) (q2:g' I.rw=.row 0 (ZCq A'.why)) (q3:A'.nxt.length=n) (q4:A'.why.length=n) (q5:A'={A with nxt:=A'.nxt,why:=A'.why}):CL I lo n m apps A' vm vu nb' g':=by
 obtain⟨d_c_rc,d_c_rm,d_c_ru,d_c_rt,d_c_rn,d_c_rw,d_rc_rm,d_rc_ru,d_rc_rt,d_rc_rn,d_rc_rw,d_rm_ru,d_rm_rt,d_rm_rn,d_rm_rw,d_ru_rt,d_ru_rn,d_ru_rw,d_rt_rn,d_rt_rw,d_rn_rw⟩:=Ids.ne h.nd
 have lt:∀r∈I.all,r < nb:=fun r hr=> (h.lt r hr).2
 have k:∀r∈I.all,r≠I.rn→r≠I.rw→g' r=g r:=fun r hr h1 h2=> hf r (lt r hr) (by simp[h1,h2])
 have hX:∀r∈[I.rn,I.rw],∀hw,g r≠.tok hw:=fun r hr hw hh=> by
  simp only[List.mem_cons,List.not_mem_nil,or_false] at hr
  rcases hr with rfl|rfl
  ·rw[h.rn] at hh;cases hh
  ·rw[h.rw] at hh;cases hh
 have e1:A'.cls=A.cls:=by rw[q5]
 have e2:A'.mem=A.mem:=by rw[q5]
 have e3:A'.use=A.use:=by rw[q5]
 have e4:A'.tab=A.tab:=by rw[q5]
 refine⟨?_,?_,?_,?_,?_,q1,q2,by rw[e1];exact h.lc,h.lm,h.lu,q3,q4,by rw[e2];exact h.km,by rw[e3];exact h.ku,by rw[e4];exact h.keys,h.nd,fun r hr=> ⟨(h.lt r hr).1,by have:=lt r hr;omega⟩,
  fun i v l h1 h2=> (h.sm i v l h1 (by rw[←e2];exact h2)).keep hn hf hX,fun i v l h1 h2=> (h.su i v l h1 (by rw[←e3];exact h2)).keep hn hf hX,h.tk⟩
 ·rw[k _ (by simp[Ids.all]) d_c_rn d_c_rw];exact h.c
 ·rw[k _ (by simp[Ids.all]) d_rc_rn d_rc_rw,e1];exact h.rc
 ·rw[k _ (by simp[Ids.all]) d_rm_rn d_rm_rw];exact h.rm
 ·rw[k _ (by simp[Ids.all]) d_ru_rn d_ru_rw];exact h.ru
 ·rw[k _ (by simp[Ids.all]) d_rt_rn d_rt_rw,e4];exact h.rt
theorem SlR.lt {g:Nat→Blk} {lo nb:Nat} {v:V} {l:List Nat} (h:SlR g lo nb v l) {r:Nat} (hr:ZCj v=some r):lo≤r∧r < nb∧∃hw,g r=.tok hw:=by
 rcases h with ⟨rfl,_⟩|rfl|⟨r',rfl,h1,h2,h3⟩
 ·cases hr
 ·cases hr
 ·cases hr;exact⟨h1,h2,_,h3⟩
section
variable {I:Ids} {lo n m:Nat} {apps:V} {A:Cl} {vm vu:List V} {nb:Nat} {g:Nat→Blk}
theorem CL.toks (h:CL I lo n m apps A vm vu nb g):∀(a:Bool) (i r:Nat),((cond a vm vu)[i]?).bind ZCj=some r→lo≤r∧r < nb∧∃hw,g r=.tok hw:=by
 intro a i r hr
 cases a with
 |true=>
  cases hv:vm[i]? with
  |none=> simp only[cond,hv,Option.bind] at hr;cases hr
  |some v=>
   simp only[cond,hv,Option.bind] at hr
   have hi:i < A.mem.length:=by rw[h.km,←h.lm];exact(List.getElem?_eq_some_iff.1 hv).1
   exact(h.sm i v _ hv (List.getElem?_eq_getElem hi)).lt hr
 |false=>
  cases hv:vu[i]? with
  |none=> simp only[cond,hv,Option.bind] at hr;cases hr
  |some v=>
   simp only[cond,hv,Option.bind] at hr
   have hi:i < A.use.length:=by rw[h.ku,←h.lu];exact(List.getElem?_eq_some_iff.1 hv).1
   exact(h.su i v _ hv (List.getElem?_eq_getElem hi)).lt hr
theorem CL.rows (h:CL I lo n m apps A vm vu nb g):∀r∈I.all,∀hw,g r≠.tok hw:=by
 intro r hr hw hh
 simp only[Ids.all,List.mem_cons,List.not_mem_nil,or_false] at hr
 obtain⟨ver,ht⟩:=h.rt
 rcases hr with rfl|rfl|rfl|rfl|rfl|rfl|rfl
 ·rw[h.c] at hh;cases hh
 ·rw[h.rc] at hh;cases hh
 ·rw[h.rm] at hh;cases hh
 ·rw[h.ru] at hh;cases hh
 ·rw[ht] at hh;cases hh
 ·rw[h.rn] at hh;cases hh
 ·rw[h.rw] at hh;cases hh
end
def Ft (X:List Nat) (f f':Nat→V):Prop:=∀t,t∉X→f' t=f t
theorem Ft.trans {X Y:List Nat} {f f' f'':Nat→V} (h:Ft X f f') (h':Ft Y f' f''):Ft (X++Y) f f'':=fun r hx=> by
 rw[List.mem_append,not_or] at hx
 rw[h' r hx.2,h r hx.1]
end
section
theorem ZFX:okZ Tryz.prog 3=true:=by kernel_rfl
theorem ZFV:okU Tryz.prog 27=true:=by kernel_rfl
theorem by3:bytesOf Tryz.prog 3=8:=by kernel_rfl
theorem ZGr {m:Nat} (h:m < 1000000):ZD4 Tryz.prog 3 m:=by unfold ZD4;rw[by3];omega
def SlV (v:V) (l:List Nat):Prop:=(v=.nils∧l=[])∨∃o,v=.vs (ints l) l.length 1 o
theorem SlR.slv {g:Nat→Blk} {lo nb:Nat} {v:V} {l:List Nat} (h:SlR g lo nb v l):SlV v l:=by
 rcases h with h|h|⟨r,h,_⟩
 ·exact .inl h
 ·exact .inr ⟨_,h⟩
 ·exact .inr ⟨_,h⟩
theorem ZDF {v:V} {l:List Nat} (h:SlV v l) (get:Nat→Blk) (nid:Nat):ZmL Tryz.prog false get nid .len [27] [v]=some {v:=nv l.length}:=by
 rcases h with ⟨rfl,rfl⟩|⟨o,rfl⟩ <;> simp[ZmL,ZDQ,ZEx]
theorem ZhY.seq {n:Nat} {P:(Nat→V)→Nat→(Nat→Blk)→Prop} {Q':Ex→(Nat→V)→Nat→(Nat→Blk)→Prop} {x:Option (List (Ex×St))} {k:St→Option (List (Ex×St))} (h:ZhY n (fun e f nb g=> e=.normal∧P f nb g) x)
 (hk:∀f nb g d,P f nb g→ZhY n Q' (k (S n f [] (mkH nb g d)))):ZhY n Q' (thenV x k):=
 ZhY.then h (fun f nb g d hq=> hk f nb g d hq.2) fun e f nb g hne hq=> absurd hq.1 hne
inductive App (g:Nat→Blk) (lo nb:Nat) (vy vx:V) (l:List Nat):Prop
 |same (h:∀get nid,ZmL Tryz.prog false get nid .append [27,27] [vy,vx]=some {v:=vy}) (hv:SlR g lo nb vy l)
 |new (h:∀get nid,ZmL Tryz.prog false get nid .append [27,27] [vy,vx]=some {v:=.vs (ints l) l.length 1 (.tok nid l.length),nw:=[.tok l.length]})
 |tok (r e:Nat) (cs:List V) (len:Nat) (cx:List V) (lx zx:Nat) (ox:Own) (hy:vy=.vs cs len 1 (.tok r e)) (hx:vx=.vs cx lx zx ox) (h1:lo≤r) (h2:r < nb) (h3:g r=.tok e)
  (h:∀nid,ZF9 [27,27] (.tok e) nid cs len 1 r e (.vs cx lx zx ox)=some {v:=.vs (ints l) l.length 1 (.tok r l.length),rd:=[r],wr:=[(r,.tok l.length)]})
theorem ZE8 {g:Nat→Blk} {lo nb:Nat} {vy vx:V} {ly lx:List Nat} (hy:SlR g lo nb vy ly) (hx:SlV vx lx) (hl:(ly++lx).length < 100000):App g lo nb vy vx (ly++lx):=by
 rw[List.length_append] at hl
 have one:V.ones (ints lx)=true:=zRd lx
 have sea:=zRf lx
 have pur:=zRe lx
 have ln:=Zu lx
 rcases Classical.em (lx=[]) with rfl|hne
 ·refine .same (fun get nid=> ?_) (by rw[List.append_nil];exact hy)
  rcases hx with ⟨rfl,_⟩|⟨o,rfl⟩ <;> rcases hy with ⟨rfl,_⟩|rfl|⟨r,rfl,_⟩ <;> simp[ZmL,ZEx,ZFV,ZFX,ZC9,sz3,ints,V.ones]
 ·obtain⟨o,rfl⟩:∃o,vx=.vs (ints lx) lx.length 1 o:=by
   rcases hx with ⟨_,h⟩|h
   ·exact absurd h hne
   ·exact h
  have hpos:¬lx.length=0:=fun h=> hne (List.length_eq_zero_iff.1 h)
  have e:ints ly++ints lx=ints (ly++lx):=zzf _ _
  rcases hy with ⟨rfl,rfl⟩|rfl|⟨r,rfl,h1,h2,h3⟩
  ·refine .new fun get nid=> ?_
   have hroom:=ZGr (m:=lx.length) (by omega)
   simp[ZmL,ZEx,ZFV,ZFX,ZC9,sz3,ZCY,one,sea,pur,ln,hpos,hroom]
  ·refine .new fun get nid=> ?_
   have hroom:=ZGr (m:=ly.length+lx.length) (by omega)
   simp[ZmL,ZEx,ZFV,ZFX,ZC9,sz3,ZCY,one,sea,pur,ln,hpos,hroom,e]
  ·refine .tok r ly.length (ints ly) ly.length (ints lx) lx.length 1 o rfl rfl h1 h2 h3 fun nid=> ?_
   have hroom:=ZGr (m:=ly.length+lx.length) (by omega)
   simp[ZF9,ZmL,ZEx,ZFV,ZFX,ZC9,sz3,ZCY,one,sea,pur,ln,hpos,hroom,e]
end
end
section
open Go Go.Ae
attribute [local simp] ZCl ZF JC JB ZR ZS Zo ZE Jx Jw Jq Zw Zk S_h ZH Zz ZM ZK ZL zt ZO ZN Z7 Zj Jp Z8 JD JE Zt Z0 ZCD ZP ZQ zq zB zz zA zo Z5 zr zO Jy Jz JG JH Z1 Z2 Z3 Z4 ZI Zy JF ZT ZW ZB ZA ZY ZX ZZ ZnB Zi3 V.ones Je Jd Jh Jg Jf Ji Jn Jo Jm ZV Jk Jl Jj zK ZU zL JA Jt Js Ju Jr Jv Ja Jb Jc Z9 max2 cond_true cond_false List.nil_append List.cons_append zL3 zL2 zVn zVl zVm zL0 zWl zWb zWc zWd zWe zWf zWg zWh zWi zWj zWk zL1 zWn zWo zWt zWq zWr zWs zWu zVo zVp zWp zVq zVJ zVr zVs zVB zVC zVD zVE zVF zVG zVH zVI zVt zVu zVv zVw zVx zVy zVz zVA zVK zV2 zVL zVM zVU zVV zVW zVX zVY zVZ zV0 zV1 zVN zVO zVP zVQ zVR zVS zVT zWa zV3 zV4 zV5 zV6 zV7 zV8 zV9
section
attribute [local simp] ld3 ZC2 ZCB ZEe ZCG ZDP ZEf ZDp ZCN ZCP ZCK ZDo ZDZ ZDN ZCH JR JS sz3 ZCR ZCx ZD8 ZCz ZDr
theorem sp2 {a b x y:V}:splice [a,b] [x,y] 0=some [x,y]:=rfl
theorem sp3 {a b c x y z:V}:splice [a,b,c] [x,y,z] 0=some [x,y,z]:=rfl
attribute [local simp] sp2 sp3 JY JX
theorem zXb (I:Ids) (n m:Nat) (apps:V) (lo:Nat):∀(fu:Nat) (at':Option Nat) (nx:Nat) (w:Zm0) (A A':Cl) (f:Nat→V) (nb pw:Nat) (g:Nat→Blk) (d:List Nat),ZDR fu at' nx w A=some A'→
 f 0=.ptr I.c 0→f 4=ont at'→f 5=nv nx→f 6=.ptr pw 0→g pw=.row 0 (tri w)→pw < nb→pw∉I.all→I.all.Nodup→(∀r∈I.all,lo≤r∧r < nb)→
 (∃a2 a3 a4 a5,g I.c=.row 0 [nv m,apps,a2,a3,a4,a5,.hs I.rn 0 n n 1 false,.hs I.rw 0 n n 3 false])→g I.rn=.row 0 (ZDb A.nxt)→g I.rw=.row 0 (ZCq A.why)→A.nxt.length=n→A.why.length=n→
 ZhY 47 (fun e _ nb' g'=> e=.exit 0∧nb≤nb'∧Fr [pw,I.rn,I.rw] nb g g'∧g' I.rn=.row 0 (ZDb A'.nxt)∧g' I.rw=.row 0 (ZCq A'.why)∧A'.nxt.length=n∧A'.why.length=n∧A'={A with nxt:=A'.nxt,why:=A'.why}) (C 84 zkj (S 47 f [] (mkH nb g d))):=by
 intro fu
 induction fu with
 |zero=> intro at' nx w A A' f nb pw g d h;cases h
 |succ fu ih=>
  intro at' nx w A A' f nb pw g d h f0 f4 f5 f6 gp hp hpI hnd hlt hc hn hw ln lw
  rw[zWm]
  cases at' with
  |none=>
   obtain rfl:A=A':=Option.some.inj h
   simp(disch:=first|assumption|decide|omega)[f4,ont]
   refine ZhY.mk ?_
   exact⟨rfl,Nat.le_refl _,Fr.refl _ _ _,hn,hw,ln,lw⟩
  |some t=>
   simp only[ZDR] at h
   split at h
   ·rename_i old reason h1 h2
    have ht:t < n:=by rw[←ln];exact(List.getElem?_eq_some_iff.1 h1).1
    obtain⟨a2,a3,a4,a5,hc⟩:=hc
    have hpI0:=hpI
    simp only[Ids.all,List.mem_cons,List.not_mem_nil,not_or,or_false] at hpI
    obtain⟨p1,p2,p3,p4,p5,p6,p7⟩:=hpI
    have p1':=Ne.symm p1
    have p6':=Ne.symm p6
    have p7':=Ne.symm p7
    obtain⟨d_c_rc,d_c_rm,d_c_ru,d_c_rt,d_c_rn,d_c_rw,d_rc_rm,d_rc_ru,d_rc_rt,d_rc_rn,d_rc_rw,d_rm_ru,d_rm_rt,d_rm_rn,d_rm_rw,d_ru_rt,d_ru_rn,d_ru_rw,d_rt_rn,d_rt_rw,d_rn_rw⟩:=Ids.ne hnd
    obtain⟨d_rc_c,d_rm_c,d_ru_c,d_rt_c,d_rn_c,d_rw_c,d_rm_rc,d_ru_rc,d_rt_rc,d_rn_rc,d_rw_rc,d_ru_rm,d_rt_rm,d_rn_rm,d_rw_rm,d_rt_ru,d_rn_ru,d_rw_ru,d_rn_rt,d_rw_rt,d_rw_rn⟩:=Ids.ne' hnd
    have l1:=(hlt I.c (by simp[Ids.all])).2
    have l2:=(hlt I.rn (by simp[Ids.all])).2
    have l3:=(hlt I.rw (by simp[Ids.all])).2
    have h1':=zX6 h1
    have h2':=zZb h2
    have f4:f 4=nv t:=f4
    have ht1:t≤n:=by omega
    have ht3:t * 3≤n * 3:=by omega
    have sp1:splice (ZDb A.nxt) [nv nx] t=some (ZDb (A.nxt.set t (some nx))):=by
     rw[zaV (by rw[zCC];omega),zX7]
    have sp4:splice (ZCq A.why) [nv w.1,nv w.2.1,.int .i64 w.2.2] (t * 3)=some (ZCq (A.why.set t w)):=zOW (l:=A.why) (i:=t) w (by omega)
    simp(disch:=first|assumption|decide|omega)[f0,f4,f5,f6,gp,hc,hn,hw,h1',h2',zCC,zkr,ln,lw,ht1,ht3,sp1,sp4,tri]
    have hlt':∀r∈I.all,lo≤r∧r < nb+1:=fun r hr=> ⟨(hlt r hr).1,by have:=(hlt r hr).2;omega⟩
    refine(ih old t reason _ A' _ (nb+1) pw _ _ h ?_ ?_ ?_ ?_ ?_ (by omega) hpI0 hnd hlt' ⟨a2,a3,a4,a5,?_⟩ ?_ ?_ ?_ ?_).weak ?_
    ·simp[f0]
    ·simp
    ·simp
    ·simp[f6]
    ·simp[tri]
    ·simp(disch:=first|assumption|decide|omega)[hc]
    ·simp(disch:=first|assumption|decide|omega)
    ·simp(disch:=first|assumption|decide|omega)
    ·simp[ln]
    ·simp[lw]
    ·rintro e _ nb' g' ⟨rfl,q1,q2,q3,q4,q5,q6,q7⟩
     refine⟨rfl,by omega,fun r hr hx=> ?_,q3,q4,q5,q6,q7⟩
     rw[q2 r (by omega) hx]
     simp only[List.mem_cons,List.not_mem_nil,or_false,not_or] at hx
     obtain⟨x1,x2,x3⟩:=hx
     have x4:¬r=nb:=Nat.ne_of_lt hr
     simp only[atB,at1,if_neg x1,if_neg x2,if_neg x3,if_neg x4]
   ·cases h
theorem zW9 {I:Ids} {lo n m:Nat} {apps:V} {A A':Cl} {vm vu:List V} {nb:Nat} {g:Nat→Blk} {d:List Nat} (h:CL I lo n m apps A vm vu nb g) {fu:Nat} {s:Zm0} (hl:ZDR fu (some s.1) s.2.1 s A=some A'):
 ZCm (fun _ nb' g'=> nb≤nb'∧CL I lo n m apps A' vm vu nb' g'∧Fr [I.rn,I.rw] nb g g') (ZCi Tryz.prog hs ks 84 [.ptr I.c 0,.agg (tri s)] (mkH nb g d)):=by
 have hp:V.pures (V.seals [V.ptr I.c 0,.agg (tri s)])=false:=rfl
 rw[zwH hp,zWv _ (by simp)]
 have lt:∀r∈I.all,r < nb:=fun r hr=> (h.lt r hr).2
 have l1:=lt I.c (by simp[Ids.all])
 have l2:=lt I.rn (by simp[Ids.all])
 have l3:=lt I.rw (by simp[Ids.all])
 rw[zL2]
 refine ZhY.rets (n:=47) (Q:=fun e _ nb' g'=> e=.normal∧nb≤nb'∧Fr [I.rn,I.rw] nb g g'∧g' I.rn=.row 0 (ZDb A'.nxt)∧g' I.rw=.row 0 (ZCq A'.why)∧A'.nxt.length=n∧A'.why.length=n∧A'={A with nxt:=A'.nxt,why:=A'.why}) ?_ ?_
 ·refine ZhY.then (Q:=fun e f' nb' g'=> e=.normal∧nb'=nb+1∧f' 0=.ptr I.c 0∧f' 3=.ptr nb 0∧g' nb=.row 0 (tri s)∧∀r,r < nb→g' r=g r) ?_ ?_ ?_
  ·simp(disch:=first|assumption|decide|omega)[tri]
   refine ZhY.mk ?_
   refine⟨rfl,rfl,by simp,by simp,by simp[tri],fun r hr=> ?_⟩
   have x1:¬r=nb:=by omega
   simp only[atB,at1,if_neg x1]
  ·rintro f' _ g1 d1 ⟨_,rfl,f0,f3,gs,gr⟩
   rw[zL0]
   refine ZhY.then (Q:=fun e f' nb' g'=> e=.normal∧nb'=nb+1+1∧f' 0=.ptr I.c 0∧f' 4=nv s.1∧f' 5=nv s.2.1∧f' 6=.ptr (nb+1) 0∧g' (nb+1)=.row 0 (tri s)∧∀r,r < nb→g' r=g r) ?_ ?_ ?_
   ·simp(disch:=first|assumption|decide|omega)[tri,f0,f3,gs]
    refine ZhY.mk ?_
    refine⟨rfl,rfl,by simp[f0],by simp,by simp,by simp,by simp[tri],fun r hr=> ?_⟩
    have x1:¬r=nb:=by omega
    have x2:¬r=nb+1:=by omega
    simp only[atB,at1,if_neg x1,if_neg x2,gr r hr]
   ·rintro f2 _ g2 d2 ⟨_,rfl,f0,f4,f5,f6,gp,gr⟩
    rw[zL1]
    refine(zXb I n m apps lo fu (some s.1) s.2.1 s A A' f2 (nb+1+1) (nb+1) g2 d2 hl f0 f4 f5 f6 gp (by omega) ?_ h.nd (fun r hr=> ⟨(h.lt r hr).1,by have:=lt r hr;omega⟩) ⟨_,_,_,_,(gr _ l1).trans h.c⟩ ?_ ?_ h.ln h.lw).block ?_ ?_
    ·intro hh;have:=lt _ hh;omega
    ·rw[gr _ l2];exact h.rn
    ·rw[gr _ l3];exact h.rw
    ·rintro f3 nb3 g3 ⟨_,q1,q2,q3⟩
     refine⟨rfl,by omega,fun r hr hx=> ?_,q3⟩
     rw[q2 r (by omega) (by simp only[List.mem_cons,not_or] at hx⊢;exact⟨by omega,hx⟩),gr r hr]
    ·rintro e f3 nb3 g3 hne ⟨rfl,_⟩;exact absurd rfl hne
   ·rintro e f nb g hne ⟨rfl,_⟩;exact absurd rfl hne
  ·rintro e f nb g hne ⟨rfl,_⟩;exact absurd rfl hne
 ·rintro e f nb' g' d' ⟨rfl,q1,q2,q3,q4,q5,q6,q7⟩
  rw[zL3]
  simp(disch:=first|assumption|decide|omega)
  refine ZCm.mk ?_
  exact⟨q1,h.next q1 q2 q3 q4 q5 q6 q7,q2⟩
end
end
section
open Go Go.Ae
attribute [local simp] ZCl ZF JC JB ZR ZS Zo ZE Jx Jw Jq Zw Zk S_h ZH Zz ZM ZK ZL zt ZO ZN Z7 Zj Jp Z8 JD JE Zt Z0 ZCD ZP ZQ zq zB zz zA zo Z5 zr zO Jy Jz JG JH Z1 Z2 Z3 Z4 ZI Zy JF ZT ZW ZB ZA ZY ZX ZZ ZnB Zi3 V.ones Je Jd Jh Jg Jf Ji Jn Jo Jm ZV Jk Jl Jj zK ZU zL JA Jt Js Ju Jr Jv Ja Jb Jc Z9 max2 cond_true cond_false List.nil_append List.cons_append zc1 zc0 zdR zdP zdQ zcO ze4 ze0 ze1 ze2 ze3 zbT zhc zhr zje zja zjb zjc zjd zjf zdS zdT ziv zdU zd1 zdV zdW zdX zdY zdZ zd0 zd2 zd7 zd3 zd4 zd5 zd6 zd8 zes zd9 zea zek zel zem zen zeo zep zeq zer zeb zec zed zee zef zeg zeh zei zej zet zeu zeA zew zex zey zez zeB zeC zeD zev zeE zeX zeF zeG zeP zeQ zeR zeS zeT zeU zeV zeW zeH zeI zeJ zeK zeL zeM zeN zeO zeY zeZ zfb ze6 ze7 ze8 ze9 zfa zfl zfc zfd zfe zff zfg zfh zfi zfj zfk ze5 zbz zfq zfm zfn zfo zfp zcP zcQ zfB zfr zfs zft zfu zfv zfw zfx zfy zfz zfA zcS zfC zfF zfD zfE zfG zfH zfJ zfK zfI zfL zfQ zfV zfR zfS zfT zfU zf5 zfW zfX zfY zfZ zf0 zf1 zf2 zf3 zf4 zfP zfM zfN zfO zcR zgt zf6 zf7 zgi zgm zgn zgo zgp zgq zgr zgs zf8 zf9 zga zgb zgc zgd zge zgf zgg zgh zgj zgk zgl zcU zgD zgu zgv zgw zgx zgy zgz zgA zgB zgC zcV zgT zgE zgF zgL zgM zgN zgO zgP zgQ zgR zgS zgG zgH zgI zgJ zgK zcW zhb zgU zgV zg3 zg4 zg5 zg6 zg7 zg8 zg9 zha zgW zgX zgY zgZ zg0 zg1 zg2 zcX zhh zhd zhe zhf zhg zcY zhi zhl zhj zhk zhm zhn zhp zhq zho zhs zhx zhC zhy zhz zhA zhB zhD zhT zhE zhF zhL zhM zhN zhO zhP zhQ zhR zhS zhG zhH zhI zhJ zhK zhU zif zhV zhW zh7 zh8 zh9 zia zib zic zid zie zhX zhY zhZ zh0 zh1 zh2 zh3 zh4 zh5 zh6 zig ziu zih zii zil zim zin zio ziq zir zis zit zij zik ziw ziQ zix ziy ziI ziJ ziK ziL ziM ziN ziO ziP ziz ziA ziB ziC ziD ziE ziF ziG ziH ziR zi0 ziS ziT ziU ziV ziW ziX ziY ziZ zi9 zi1 zi2 zi3 zi4 zi5 zi6 zi7 zi8 zhw zht zhu zhv
section
attribute [local simp] ld3 ZC2 ZCB ZEe ZCG ZDP ZEf ZDp ZCN ZCP ZCK ZDo ZDZ ZDN ZCH JR JS sz3 ZCR ZCx ZD8 ZCz ZDr sp2 sp3 JY JX ltN add1 gtN eqN neN gt0 ZDT
attribute [-simp] zo zr zq zz zA zB
def clc (I:Ids) (n m:Nat) (apps:V):List V:=[nv m,apps,.hs I.rc 0 n n 1 false,.hs I.rm 0 n n 1 true,.hs I.ru 0 n n 1 true,.map I.rt,.hs I.rn 0 n n 1 false,.hs I.rw 0 n n 3 false]
def X2:List Nat:=[9,82,83,84,85,86,87,88,89,90,91,92,93]
theorem set_loop (I:Ids) (n m y:Nat) (apps:V) (l:List Nat) (o:Own) (hL:l.length < 1000000) (nb:Nat) (hrc:I.rc < nb) (hcn:I.c < nb) (hne:I.c≠I.rc):∀(k i:Nat) (cls cls':List Nat) (f:Nat→V) (g:Nat→Blk) (d:List Nat),l.length - i=k→i≤l.length→ZF1 (l.drop i) y cls=some cls'→
 f 0=.ptr I.c 0→f 7=nv y→(l≠[]→f 80=.vs (ints l) l.length 1 o)→f 81=nv l.length→f 82=nv i→g I.c=.row 0 (clc I n m apps)→g I.rc=.row 0 (ints cls)→cls.length=n→
 ZhY 224 (fun e f' nb' g'=> e=.exit 2∧nb'=nb∧Ft X2 f f'∧Fr [I.rc] nb g g'∧g' I.rc=.row 0 (ints cls')∧cls'.length=n) (C 49 zke (S 224 f [] (mkH nb g d))):=by
 intro k
 induction k with
 |zero=>
  intro i cls cls' f g d hk hi h f0 f7 f80 f81 f82 hc hr hl
  obtain rfl:i=l.length:=by omega
  rw[List.drop_length] at h
  obtain rfl:cls=cls':=Option.some.inj h
  rw[zLH]
  simp(disch:=first|assumption|decide|omega)[f0,f7,f81,f82]
  refine ZhY.mk ?_
  refine⟨rfl,rfl,fun t ht=> ?_,Fr.refl _ _ _,hr,hl⟩
  simp only[X2,List.mem_cons,List.not_mem_nil,not_or,or_false] at ht
  simp[ht]
 |succ k ih=>
  intro i cls cls' f g d hk hi h f0 f7 f80 f81 f82 hc hr hl
  have hil:i < l.length:=by omega
  have f80:=f80 (fun hh=> by rw[hh] at hil;cases hil)
  have hg:l[i]?=some l[i]:=List.getElem?_eq_getElem hil
  rw[List.drop_eq_getElem_cons hil] at h
  unfold ZF1 at h
  split at h
  ·rename_i ht
   have h1:=Zp hg
   have hlt:l[i]≤n:=by omega
   have sp1:splice (ints cls) [nv y] l[i]=some (ints (cls.set l[i] y)):=by
    rw[zaV (by rw[Zu];exact ht),zzg]
   rw[zLH]
   simp(disch:=first|assumption|decide|omega)[f0,f7,f80,f81,f82,hc,hr,clc,h1,Zu,hl,hlt,sp1,hil]
   refine(ih (i+1) _ cls' _ _ _ (by omega) (by omega) h ?_ ?_ ?_ ?_ ?_ ?_ ?_ ?_).weak ?_
   ·simp[f0]
   ·simp[f7]
   ·intro _;simp[f80]
   ·simp[f81]
   ·simp
   ·simp(disch:=first|assumption|decide|omega)[hc,clc]
   ·simp
   ·simp[hl]
   ·rintro e f' nb' g' ⟨rfl,rfl,q1,q2,q3,q4⟩
    refine⟨rfl,rfl,fun t ht=> ?_,fun r hr hx=> ?_,q3,q4⟩
    ·rw[q1 t ht]
     simp only[X2,List.mem_cons,List.not_mem_nil,not_or,or_false] at ht
     simp[ht]
    ·rw[q2 r hr hx]
     simp only[List.mem_cons,List.not_mem_nil,or_false] at hx
     simp only[atB,at1,if_neg hx]
  ·cases h
end
section
attribute [local simp] ld3 ZC2 ZCB ZEe ZCG ZDP ZEf ZDp ZCN ZCP ZCK ZDo ZDZ ZDN ZCH JR JS sz3 ZCR ZCx ZD8 ZCz ZDr sp2 sp3 JY JX ltN add1 gtN eqN neN gt0 ZDT za0 za1 zac
attribute [-simp] zo zr zq zz zA zB
theorem ZFM (a b:V):ZFN Tryz.prog 170 [(0,[a]),(1,[b])]=some (.agg [a,b]):=by kernel_rfl
theorem ZGa (a b c:V):ZFN Tryz.prog 126 [(0,[a]),(1,[b]),(2,[c])]=some (.agg [a,b,c]):=by kernel_rfl
theorem ZGV (a b c:Int) (nid:Nat):ZDl Tryz.prog false 80 1 [(0,.agg [.int .i64 a,.int .i64 b,.int .i64 c])] nid=some {v:=.vs [.int .i64 a,.int .i64 b,.int .i64 c] 1 3 .tight}:=by
 unfold ZDl
 rw[show ZE1 Tryz.prog 80 1 [(0,.agg [.int .i64 a,.int .i64 b,.int .i64 c])]=some ([.int .i64 a,.int .i64 b,.int .i64 c],3) by kernel_rfl]
 rfl
set_option maxHeartbeats 1000000 in
theorem zXT (I:Ids) (lo n m:Nat) (apps:List Key) (av:V) (hA:apps≠[]→∃o,av=.vs (prs apps) apps.length 2 o) (l:List Nat) (o:Own) (hL:l.length < 100000) (hm:n < 100000):∀(k i:Nat) (A A':Cl) (p p':List Zm0) (v:V) (f:Nat→V) (nb:Nat) (g:Nat→Blk) (d:List Nat),l.length - i=k→i≤l.length→ZEu m apps (l.drop i) A p=some (A',p')→
 f 0=.ptr I.c 0→f 4=v→(l≠[]→f 149=.vs (ints l) l.length 1 o)→f 150=nv l.length→f 151=nv i→PdR g lo nb v p→lo≤nb→(∀r∈I.all,r < nb)→I.all.Nodup→m≤n→apps.length=n - m→
 g I.c=.row 0 (clc I n m av)→g I.rc=.row 0 (ints A.cls)→A.cls.length=n→(∃ver,g I.rt=.map (ZmO A.tab) ver)→(A.tab.map (·.1)).Nodup→
 ZhY 224 (fun e f' nb' g'=> e=.exit 4∧nb≤nb'∧f' 0=.ptr I.c 0∧PdR g' lo nb' (f' 4) p'∧Fr (I.rt::(ZCj v).toList) nb g g'∧(∀r,ZCj (f' 4)=some r→ZCj v=some r∨nb≤r)∧(∃ver,g' I.rt=.map (ZmO A'.tab) ver)∧(A'.tab.map (·.1)).Nodup∧A'={A with tab:=A'.tab}) (C 49 zkg (S 224 f [] (mkH nb g d))):=by
 intro k
 induction k with
 |zero=>
  intro i A A' p p' v f nb g d hk hi h f0 f4 f149 f150 f151 hp hlo hlt hnd hmn hal hc hr hl2 ht hkeys
  obtain rfl:i=l.length:=by omega
  rw[List.drop_length] at h
  obtain⟨rfl,rfl⟩:=Prod.mk.inj (Option.some.inj h)
  rw[zvA]
  simp(disch:=first|assumption|decide|omega)[f150,f151]
  refine ZhY.mk ?_
  refine⟨rfl,Nat.le_refl _,by simp[f0],by simpa[f4] using hp,Fr.refl _ _ _,?_,ht,hkeys⟩
  intro r hr;left;simpa[f4] using hr
 |succ k ih=>
  intro i A A' p p' v f nb g d hk hi h f0 f4 f149 f150 f151 hp hlo hlt hnd hmn hal hc hr hl2 ht hkeys
  have hil:i < l.length:=by omega
  have f149:=f149 (fun hh=> by rw[hh] at hil;cases hil)
  have ek:l.length - (i+1)=k:=by omega
  have hg:l[i]?=some l[i]:=List.getElem?_eq_getElem hil
  rw[List.drop_eq_getElem_cons hil] at h
  generalize l[i]=t at hg h
  unfold ZEu at h
  cases hkey:ZEt m apps A.cls t with
  |none=> rw[hkey] at h;cases h
  |some key=>
   rw[hkey] at h
   simp only at h
   unfold ZEt at hkey
   split at hkey
   ·rename_i hmt
    split at hkey
    ·rename_i pr hpr
     split at hkey
     ·rename_i x y hx hy
      obtain rfl:=Option.some.inj hkey
      have hne:apps≠[]:=fun hh=> by rw[hh] at hpr;simp at hpr
      obtain⟨oa,rfl⟩:=hA hne
      have hln:t < n:=by
       have:=(List.getElem?_eq_some_iff.1 hpr).1
       omega
      obtain⟨ver,ht⟩:=ht
      have l1:=hlt I.c (by simp[Ids.all])
      have l2:=hlt I.rc (by simp[Ids.all])
      have l3:=hlt I.rt (by simp[Ids.all])
      obtain⟨d_c_rc,d_c_rm,d_c_ru,d_c_rt,d_c_rn,d_c_rw,d_rc_rm,d_rc_ru,d_rc_rt,d_rc_rn,d_rc_rw,d_rm_ru,d_rm_rt,d_rm_rn,d_rm_rw,d_ru_rt,d_ru_rn,d_ru_rw,d_rt_rn,d_rt_rw,d_rn_rw⟩:=Ids.ne hnd
      obtain⟨d_rc_c,d_rm_c,d_ru_c,d_rt_c,d_rn_c,d_rw_c,d_rm_rc,d_ru_rc,d_rt_rc,d_rn_rc,d_rw_rc,d_ru_rm,d_rt_rm,d_rn_rm,d_rw_rm,d_rt_ru,d_rn_ru,d_rw_ru,d_rn_rt,d_rw_rt,d_rw_rn⟩:=Ids.ne' hnd
      have h1:=Zp hg
      have h2:=Zp hx
      have h3:=Zp hy
      have h4:=zjj hpr
      have hti:t - m < apps.length:=(List.getElem?_eq_some_iff.1 hpr).1
      have hp1:pr.1 < n:=by rw[←hl2];exact(List.getElem?_eq_some_iff.1 hx).1
      have hp2:pr.2 < n:=by rw[←hl2];exact(List.getElem?_eq_some_iff.1 hy).1
      have hp1':pr.1≤n:=Nat.le_of_lt hp1
      have hp2':pr.2≤n:=Nat.le_of_lt hp2
      cases hget:ZCL A.tab (x,y) with
      |none=>
       rw[hget] at h
       simp only at h
       have hlk:ZFT I.rt (.map (ZmO A.tab) ver) (.agg [nv x,nv y])=some {v:=.tup [.int .i64 0,.bool false],rd:=[I.rt]}:=zNF (get:=fun _=> .map (ZmO A.tab) ver) (k:=(x,y)) rfl hget
       have hmp:ZGp I.rt (.map (ZmO A.tab) ver) (.agg [nv x,nv y]) (nv t)=some {v:=ZmM,rd:=[I.rt],wr:=[(I.rt,.map (ZmO (ZCS A.tab (x,y) t)) (ver+1))]}:=ZHE (get:=fun _=> .map (ZmO A.tab) ver) (k:=(x,y)) rfl hkeys
       rw[zvA]
       simp(disch:=first|assumption|decide|omega)[f0,f4,f149,f150,f151,hc,hr,ht,clc,h1,h2,h3,h4,Zu,hl2,hp1',hp2',hil,ZFM,hlk,hmp]
       have hX:∀r∈[I.rt],∀hw,g r≠.tok hw:=fun r hr hw hh=> by
        rw[List.mem_singleton.1 hr,ht] at hh;cases hh
       refine(ih (i+1) _ A' p p' v _ (nb+1+1) _ _ ek hil h ?_ ?_ ?_ ?_ ?_ (hp.keep (X:=[I.rt]) (by omega) (fun r hr hx=> ?_) hX) (by omega) (fun r hr=> by have:=hlt r hr;omega) hnd hmn hal ?_ ?_ hl2 ⟨ver+1,?_⟩ (zC4 hkeys)).weak ?_
       ·simp[f0]
       ·simp[f4]
       ·intro _;simp[f149]
       ·simp[f150]
       ·simp
       ·rw[List.mem_singleton] at hx
        have x1:¬r=nb:=by omega
        have x2:¬r=nb+1:=by omega
        simp only[atB,at1,if_neg hx,if_neg x1,if_neg x2]
       ·simp(disch:=first|assumption|decide|omega)[hc,clc]
       ·simp(disch:=first|assumption|decide|omega)[hr]
       ·simp(disch:=first|assumption|decide|omega)
       ·rintro e f' nb' g' ⟨rfl,q1,q2,q3,q4,q5,q6,q7,q8⟩
        refine⟨rfl,by omega,q2,q3,fun r hr hx=> ?_,fun r hr=> ?_,q6,q7,q8⟩
        ·rw[q4 r (by omega) hx]
         rw[List.mem_cons,not_or] at hx
         have x1:¬r=nb:=by omega
         have x2:¬r=nb+1:=by omega
         simp only[atB,at1,if_neg hx.1,if_neg x1,if_neg x2]
        ·rcases q5 r hr with q|q
         ·exact .inl q
         ·right;omega
      |some o=>
       rw[hget] at h
       simp only at h
       have hlk:ZFT I.rt (.map (ZmO A.tab) ver) (.agg [nv x,nv y])=some {v:=.tup [nv o,.bool true],rd:=[I.rt]}:=zNG (get:=fun _=> .map (ZmO A.tab) ver) (k:=(x,y)) rfl hkeys hget
       have hmp:ZGp I.rt (.map (ZmO A.tab) ver) (.agg [nv x,nv y]) (nv t)=some {v:=ZmM,rd:=[I.rt],wr:=[(I.rt,.map (ZmO (ZCS A.tab (x,y) t)) (ver+1))]}:=ZHE (get:=fun _=> .map (ZmO A.tab) ver) (k:=(x,y)) rfl hkeys
       split at h
       ·rename_i co ct hco hct
        have h5:=Zp hco
        have h6:=Zp hct
        have ho1:o < n:=by rw[←hl2];exact(List.getElem?_eq_some_iff.1 hco).1
        have ho1':o≤n:=Nat.le_of_lt ho1
        have hln':t≤n:=Nat.le_of_lt hln
        by_cases hcc:co=ct
        ·subst hcc
         simp only[ne_eq,not_true_eq_false,if_false] at h
         rw[zvA]
         simp(disch:=first|assumption|decide|omega)[f0,f4,f149,f150,f151,hc,hr,ht,clc,h1,h2,h3,h4,h5,h6,Zu,hl2,hp1',hp2',ho1',hln',hil,ZFM,hlk,hmp]
         have hX:∀r∈[I.rt],∀hw,g r≠.tok hw:=fun r hr hw hh=> by
          rw[List.mem_singleton.1 hr,ht] at hh;cases hh
         refine(ih (i+1) _ A' p p' v _ (nb+1+1) _ _ ek hil h ?_ ?_ ?_ ?_ ?_ (hp.keep (X:=[I.rt]) (by omega) (fun r hr hx=> ?_) hX) (by omega) (fun r hr=> by have:=hlt r hr;omega) hnd hmn hal ?_ ?_ hl2 ⟨ver+1,?_⟩ (zC4 hkeys)).weak ?_
         ·simp[f0]
         ·simp[f4]
         ·intro _;simp[f149]
         ·simp[f150]
         ·simp
         ·rw[List.mem_singleton] at hx
          have x1:¬r=nb:=by omega
          have x2:¬r=nb+1:=by omega
          simp only[atB,at1,if_neg hx,if_neg x1,if_neg x2]
         ·simp(disch:=first|assumption|decide|omega)[hc,clc]
         ·simp(disch:=first|assumption|decide|omega)[hr]
         ·simp(disch:=first|assumption|decide|omega)
         ·rintro e f' nb' g' ⟨rfl,q1,q2,q3,q4,q5,q6,q7,q8⟩
          refine⟨rfl,by omega,q2,q3,fun r hr hx=> ?_,fun r hr=> ?_,q6,q7,q8⟩
          ·rw[q4 r (by omega) hx]
           rw[List.mem_cons,not_or] at hx
           have x1:¬r=nb:=by omega
           have x2:¬r=nb+1:=by omega
           simp only[atB,at1,if_neg hx.1,if_neg x1,if_neg x2]
          ·rcases q5 r hr with q|q
           ·exact .inl q
           ·right;omega
        ·rw[if_pos hcc] at h
         split at h
         ·rename_i hpl
          rcases hp with hv|⟨rp,e0,hv,e1,e2,e3⟩
          ·subst hv
           have happ:∀get nid,ZmL Tryz.prog false get nid .append [80,80] [.vs (ZCq p) p.length 3 .tight,.vs [nv t,nv o,.int .i64 (-1)] 1 3 .tight]=some {v:=.vs (ZCq (p++[(t,o, -1)])) (p.length+1) 3 (.tok nid (p.length+1)),nw:=[.tok (p.length+1)]}:=fun get nid=> ZJy (s:=(t,o, -1)) hpl
           rw[zvA]
           simp(disch:=first|assumption|decide|omega)[f0,f4,f149,f150,f151,hc,hr,ht,clc,h1,h2,h3,h4,h5,h6,Zu,hl2,hp1',hp2',ho1',hln',hil,ZFM,ZGa,ZGV,hlk,hcc,happ]
           refine(ih (i+1) _ A' (p++[(t,o, -1)]) p' (.vs (ZCq (p++[(t,o, -1)])) (p.length+1) 3 (.tok (nb+1+1) (p.length+1))) _ (nb+1+1+1) _ _ ek hil h ?_ ?_ ?_ ?_ ?_ ?_ (by omega) (fun r hr=> by have:=hlt r hr;omega) hnd hmn hal ?_ ?_ hl2 ⟨ver,?_⟩ hkeys).weak ?_
           ·simp[f0]
           ·simp
           ·intro _;simp[f149]
           ·simp[f150]
           ·simp
           ·exact .inr ⟨nb+1+1,p.length+1,by rw[List.length_append];rfl,by omega,by omega,by simp⟩
           ·simp(disch:=first|assumption|decide|omega)[hc,clc]
           ·simp(disch:=first|assumption|decide|omega)[hr]
           ·simp(disch:=first|assumption|decide|omega)[ht]
           ·rintro e f' nb' g' ⟨rfl,q1,q2,q3,q4,q5,q6,q7,q8⟩
            refine⟨rfl,by omega,q2,q3,fun r hr hx=> ?_,fun r hr=> ?_,q6,q7,q8⟩
            ·rw[List.mem_cons,not_or] at hx
             have x1:¬r=nb:=by omega
             have x2:¬r=nb+1:=by omega
             have x3:¬r=nb+1+1:=by omega
             rw[q4 r (by omega) (by simp only[ZCj,Option.toList,List.mem_cons,List.not_mem_nil,or_false,not_or];exact⟨hx.1,x3⟩)]
             simp only[atB,at1,if_neg x1,if_neg x2,if_neg x3]
            ·rcases q5 r hr with q|q
             ·right
              simp only[ZCj,Option.some.injEq] at q
              omega
             ·right;omega
          ·subst hv
           have happ:∀nid,ZF9 [80,80] (.tok e0) nid (ZCq p) p.length 3 rp e0 (.vs [nv t,nv o,.int .i64 (-1)] 1 3 .tight)=some {v:=.vs (ZCq (p++[(t,o, -1)])) (p.length+1) 3 (.tok rp (e0+1)),rd:=[rp],wr:=[(rp,.tok (e0+1))]}:=fun nid=> ZJz (get:=fun _=> .tok e0) (s:=(t,o, -1)) hpl rfl
           rw[zvA]
           simp(disch:=first|assumption|decide|omega)[f0,f4,f149,f150,f151,hc,hr,ht,clc,h1,h2,h3,h4,h5,h6,Zu,hl2,hp1',hp2',ho1',hln',hil,ZFM,ZGa,ZGV,hlk,hcc,happ,e3]
           have t1:I.c≠rp:=fun hh=> by rw[←hh,hc] at e3;cases e3
           have t2:I.rc≠rp:=fun hh=> by rw[←hh,hr] at e3;cases e3
           have t3:I.rt≠rp:=fun hh=> by rw[←hh,ht] at e3;cases e3
           refine(ih (i+1) _ A' (p++[(t,o, -1)]) p' (.vs (ZCq (p++[(t,o, -1)])) (p.length+1) 3 (.tok rp (e0+1))) _ (nb+1+1) _ _ ek hil h ?_ ?_ ?_ ?_ ?_ ?_ (by omega) (fun r hr=> by have:=hlt r hr;omega) hnd hmn hal ?_ ?_ hl2 ⟨ver,?_⟩ hkeys).weak ?_
           ·simp[f0]
           ·simp
           ·intro _;simp[f149]
           ·simp[f150]
           ·simp
           ·exact .inr ⟨rp,e0+1,by rw[List.length_append];rfl,e1,by omega,by simp⟩
           ·simp(disch:=first|assumption|decide|omega)[hc,clc]
           ·simp(disch:=first|assumption|decide|omega)[hr]
           ·simp(disch:=first|assumption|decide|omega)[ht]
           ·rintro e f' nb' g' ⟨rfl,q1,q2,q3,q4,q5,q6,q7,q8⟩
            refine⟨rfl,by omega,q2,q3,fun r hr hx=> ?_,fun r hr=> ?_,q6,q7,q8⟩
            ·rw[q4 r (by omega) hx]
             simp only[ZCj,Option.toList,List.mem_cons,List.not_mem_nil,or_false,not_or] at hx
             have x1:¬r=nb:=by omega
             have x2:¬r=nb+1:=by omega
             simp only[atB,at1,if_neg x1,if_neg x2,if_neg hx.2]
            ·rcases q5 r hr with q|q
             ·exact .inl q
             ·right;omega
         ·cases h
       ·cases h
     ·cases hkey
    ·cases hkey
   ·cases hkey
end
section
attribute [local simp] ld3 ZC2 ZCB ZEe ZCG ZDP ZEf ZDp ZCN ZCP ZCK ZDo ZDZ ZDN ZCH JR JS sz3 ZCR ZCx ZD8 ZCz ZDr sp2 sp3 JY JX ltN add1 gtN eqN neN gt0 ZDT za0 za1 zac JO
attribute [-simp] zo zr zq zz zA zB
theorem SlR.cell {g:Nat→Blk} {lo nb:Nat} {v:V} {l:List Nat} (h:SlR g lo nb v l):V.cells v=[v]∧V.one v=true:=by
 rcases h with ⟨rfl,_⟩|rfl|⟨r,rfl,_⟩ <;> exact⟨rfl,rfl⟩
theorem za7 {l:List V} {i:Nat} {v:V} (h:l[i]?=some v):(l.drop i).head?=some v:=by rw[List.head?_drop];exact h
structure Put (g g':Nat→Blk) (lo nb nb' R:Nat) (cells:List V) (y:Nat) (vy:V) (l:List Nat):Prop where
 ex:∃v',SlR g' lo nb' v' l∧g' R=.row 0 (cells.set y v')∧(∀r,ZCj v'=some r→ZCj vy=some r∨nb≤r)
 fr:Fr (R::(ZCj vy).toList) nb g g'
section
variable {I:Ids} {lo n m x y nb:Nat} {av vx vy:V} {cells:List V} {l:List Nat} {f:Nat→V} {g:Nat→Blk} {d:List Nat}
set_option maxHeartbeats 1000000 in
theorem zXH (f0:f 0=.ptr I.c 0) (f6:f 6=nv x) (f7:f 7=nv y) (hc:g I.c=.row 0 (clc I n m av)) (hr:g I.rm=.row 0 cells) (hn:cells.length=n) (hx:cells[x]?=some vx) (hy:cells[y]?=some vy)
 (ha:App g lo nb vy vx l) (cy:V.cells vy=[vy]∧V.one vy=true) (hnd:I.all.Nodup) (hlo:lo≤nb) (hlt:∀r∈I.all,r < nb):
 ZhY 224 (fun e f' nb' g'=> e=.normal∧nb≤nb'∧(∀t,t < 94∨114 < t→f' t=f t)∧Put g g' lo nb nb' I.rm cells y vy l) (C 49 zJ (S 224 f [] (mkH nb g d))):=by
 have hxn:x < n:=by rw[←hn];exact(List.getElem?_eq_some_iff.1 hx).1
 have hyn:y < n:=by rw[←hn];exact(List.getElem?_eq_some_iff.1 hy).1
 have hxn':x≤n:=Nat.le_of_lt hxn
 have hyn':y≤n:=Nat.le_of_lt hyn
 have h1:=za7 hx
 have h2:=za7 hy
 have l1:=hlt I.c (by simp[Ids.all])
 have l2:=hlt I.rm (by simp[Ids.all])
 have sp (v:V):splice cells [v] y=some (cells.set y v):=zaV (by omega)
 obtain⟨c1,c2⟩:=cy
 cases ha with
 |same h hv=>
  obtain⟨d_c_rc,d_c_rm,d_c_ru,d_c_rt,d_c_rn,d_c_rw,d_rc_rm,d_rc_ru,d_rc_rt,d_rc_rn,d_rc_rw,d_rm_ru,d_rm_rt,d_rm_rn,d_rm_rw,d_ru_rt,d_ru_rn,d_ru_rw,d_rt_rn,d_rt_rw,d_rn_rw⟩:=Ids.ne hnd
  obtain⟨d_rc_c,d_rm_c,d_ru_c,d_rt_c,d_rn_c,d_rw_c,d_rm_rc,d_ru_rc,d_rt_rc,d_rn_rc,d_rw_rc,d_ru_rm,d_rt_rm,d_rn_rm,d_rw_rm,d_rt_ru,d_rn_ru,d_rw_ru,d_rn_rt,d_rw_rt,d_rw_rn⟩:=Ids.ne' hnd
  simp(disch:=first|assumption|decide|omega)[f0,f6,f7,hc,hr,clc,h1,h2,hn,hxn',hyn',h,sp,c1,c2]
  refine ZhY.mk ?_
  refine⟨rfl,Nat.le_refl _,fun t ht=> ?_,⟨vy,?_,by simp,fun r hr=> .inl hr⟩,fun r hr hx=> ?_⟩
  ·simp only[zt];repeat (rw[if_neg (by omega)])
  ·refine hv.keep (X:=[I.rm]) (Nat.le_refl _) (fun r hr hx=> ?_) fun r hr' hw hh=> ?_
   ·rw[List.mem_singleton] at hx
    simp only[atB,at1,if_neg hx]
   ·rw[List.mem_singleton.1 hr',hr] at hh;cases hh
  ·rw[List.mem_cons,not_or] at hx
   simp only[atB,at1,if_neg hx.1]
 |new h=>
  obtain⟨d_c_rc,d_c_rm,d_c_ru,d_c_rt,d_c_rn,d_c_rw,d_rc_rm,d_rc_ru,d_rc_rt,d_rc_rn,d_rc_rw,d_rm_ru,d_rm_rt,d_rm_rn,d_rm_rw,d_ru_rt,d_ru_rn,d_ru_rw,d_rt_rn,d_rt_rw,d_rn_rw⟩:=Ids.ne hnd
  obtain⟨d_rc_c,d_rm_c,d_ru_c,d_rt_c,d_rn_c,d_rw_c,d_rm_rc,d_ru_rc,d_rt_rc,d_rn_rc,d_rw_rc,d_ru_rm,d_rt_rm,d_rn_rm,d_rw_rm,d_rt_ru,d_rn_ru,d_rw_ru,d_rn_rt,d_rw_rt,d_rw_rn⟩:=Ids.ne' hnd
  simp(disch:=first|assumption|decide|omega)[f0,f6,f7,hc,hr,clc,h1,h2,hn,hxn',hyn',h,sp,c1,c2]
  refine ZhY.mk ?_
  refine⟨rfl,by omega,fun t ht=> ?_,⟨_,.inr (.inr ⟨nb,rfl,hlo,by omega,?_⟩),by simp,fun r hr=> ?_⟩,fun r hr hx=> ?_⟩
  ·simp only[zt];repeat (rw[if_neg (by omega)])
  ·simp(disch:=first|assumption|decide|omega)
  ·simp only[ZCj,Option.some.injEq] at hr;right;omega
  ·rw[List.mem_cons,not_or] at hx
   have x1:¬r=nb:=by omega
   simp only[atB,at1,if_neg hx.1,if_neg x1]
 |tok r e cs len cx lx zx ox hy' hx' h3 h4 h5 h=>
  subst hy' hx'
  have t1:I.c≠r:=fun hh=> by rw[←hh,hc] at h5;cases h5
  have t2:I.rm≠r:=fun hh=> by rw[←hh,hr] at h5;cases h5
  have t3:=Ne.symm t1
  have t4:=Ne.symm t2
  obtain⟨d_c_rc,d_c_rm,d_c_ru,d_c_rt,d_c_rn,d_c_rw,d_rc_rm,d_rc_ru,d_rc_rt,d_rc_rn,d_rc_rw,d_rm_ru,d_rm_rt,d_rm_rn,d_rm_rw,d_ru_rt,d_ru_rn,d_ru_rw,d_rt_rn,d_rt_rw,d_rn_rw⟩:=Ids.ne hnd
  obtain⟨d_rc_c,d_rm_c,d_ru_c,d_rt_c,d_rn_c,d_rw_c,d_rm_rc,d_ru_rc,d_rt_rc,d_rn_rc,d_rw_rc,d_ru_rm,d_rt_rm,d_rn_rm,d_rw_rm,d_rt_ru,d_rn_ru,d_rw_ru,d_rn_rt,d_rw_rt,d_rw_rn⟩:=Ids.ne' hnd
  simp(disch:=first|assumption|decide|omega)[f0,f6,f7,hc,hr,clc,h1,h2,hn,hxn',hyn',h,h5,sp,c1,c2]
  refine ZhY.mk ?_
  refine⟨rfl,Nat.le_refl _,fun t ht=> ?_,⟨_,.inr (.inr ⟨r,rfl,h3,h4,?_⟩),by simp,fun r' hr=> .inl hr⟩,fun r' hr hx=> ?_⟩
  ·simp only[zt];repeat (rw[if_neg (by omega)])
  ·simp(disch:=first|assumption|decide|omega)
  ·simp only[ZCj,Option.toList,List.mem_cons,List.not_mem_nil,or_false,not_or] at hx
   simp only[atB,at1,if_neg hx.1,if_neg hx.2]
set_option maxHeartbeats 1000000 in
theorem zZl (f0:f 0=.ptr I.c 0) (f6:f 10=vx) (f7:f 7=nv y) (hc:g I.c=.row 0 (clc I n m av)) (hr:g I.ru=.row 0 cells) (hn:cells.length=n) (hy:cells[y]?=some vy)
 (ha:App g lo nb vy vx l) (cy:V.cells vy=[vy]∧V.one vy=true) (hnd:I.all.Nodup) (hlo:lo≤nb) (hlt:∀r∈I.all,r < nb):
 ZhY 224 (fun e f' nb' g'=> e=.normal∧nb≤nb'∧(∀t,t < 134∨148 < t→f' t=f t)∧Put g g' lo nb nb' I.ru cells y vy l) (C 49 Zf (S 224 f [] (mkH nb g d))):=by
 have hyn:y < n:=by rw[←hn];exact(List.getElem?_eq_some_iff.1 hy).1
 have hyn':y≤n:=Nat.le_of_lt hyn
 have h2:=za7 hy
 have l1:=hlt I.c (by simp[Ids.all])
 have l2:=hlt I.ru (by simp[Ids.all])
 have sp (v:V):splice cells [v] y=some (cells.set y v):=zaV (by omega)
 obtain⟨c1,c2⟩:=cy
 cases ha with
 |same h hv=>
  obtain⟨d_c_rc,d_c_rm,d_c_ru,d_c_rt,d_c_rn,d_c_rw,d_rc_rm,d_rc_ru,d_rc_rt,d_rc_rn,d_rc_rw,d_rm_ru,d_rm_rt,d_rm_rn,d_rm_rw,d_ru_rt,d_ru_rn,d_ru_rw,d_rt_rn,d_rt_rw,d_rn_rw⟩:=Ids.ne hnd
  obtain⟨d_rc_c,d_rm_c,d_ru_c,d_rt_c,d_rn_c,d_rw_c,d_rm_rc,d_ru_rc,d_rt_rc,d_rn_rc,d_rw_rc,d_ru_rm,d_rt_rm,d_rn_rm,d_rw_rm,d_rt_ru,d_rn_ru,d_rw_ru,d_rn_rt,d_rw_rt,d_rw_rn⟩:=Ids.ne' hnd
  simp(disch:=first|assumption|decide|omega)[f0,f6,f7,hc,hr,clc,h2,hn,hyn',h,sp,c1,c2]
  refine ZhY.mk ?_
  refine⟨rfl,Nat.le_refl _,fun t ht=> ?_,⟨vy,?_,by simp,fun r hr=> .inl hr⟩,fun r hr hx=> ?_⟩
  ·simp only[zt];repeat (rw[if_neg (by omega)])
  ·refine hv.keep (X:=[I.ru]) (Nat.le_refl _) (fun r hr hx=> ?_) fun r hr' hw hh=> ?_
   ·rw[List.mem_singleton] at hx
    simp only[atB,at1,if_neg hx]
   ·rw[List.mem_singleton.1 hr',hr] at hh;cases hh
  ·rw[List.mem_cons,not_or] at hx
   simp only[atB,at1,if_neg hx.1]
 |new h=>
  obtain⟨d_c_rc,d_c_rm,d_c_ru,d_c_rt,d_c_rn,d_c_rw,d_rc_rm,d_rc_ru,d_rc_rt,d_rc_rn,d_rc_rw,d_rm_ru,d_rm_rt,d_rm_rn,d_rm_rw,d_ru_rt,d_ru_rn,d_ru_rw,d_rt_rn,d_rt_rw,d_rn_rw⟩:=Ids.ne hnd
  obtain⟨d_rc_c,d_rm_c,d_ru_c,d_rt_c,d_rn_c,d_rw_c,d_rm_rc,d_ru_rc,d_rt_rc,d_rn_rc,d_rw_rc,d_ru_rm,d_rt_rm,d_rn_rm,d_rw_rm,d_rt_ru,d_rn_ru,d_rw_ru,d_rn_rt,d_rw_rt,d_rw_rn⟩:=Ids.ne' hnd
  simp(disch:=first|assumption|decide|omega)[f0,f6,f7,hc,hr,clc,h2,hn,hyn',h,sp,c1,c2]
  refine ZhY.mk ?_
  refine⟨rfl,by omega,fun t ht=> ?_,⟨_,.inr (.inr ⟨nb,rfl,hlo,by omega,?_⟩),by simp,fun r hr=> ?_⟩,fun r hr hx=> ?_⟩
  ·simp only[zt];repeat (rw[if_neg (by omega)])
  ·simp(disch:=first|assumption|decide|omega)
  ·simp only[ZCj,Option.some.injEq] at hr;right;omega
  ·rw[List.mem_cons,not_or] at hx
   have x1:¬r=nb:=by omega
   simp only[atB,at1,if_neg hx.1,if_neg x1]
 |tok r e cs len cx lx zx ox hy' hx' h3 h4 h5 h=>
  subst hy' hx'
  have t1:I.c≠r:=fun hh=> by rw[←hh,hc] at h5;cases h5
  have t2:I.ru≠r:=fun hh=> by rw[←hh,hr] at h5;cases h5
  have t3:=Ne.symm t1
  have t4:=Ne.symm t2
  obtain⟨d_c_rc,d_c_rm,d_c_ru,d_c_rt,d_c_rn,d_c_rw,d_rc_rm,d_rc_ru,d_rc_rt,d_rc_rn,d_rc_rw,d_rm_ru,d_rm_rt,d_rm_rn,d_rm_rw,d_ru_rt,d_ru_rn,d_ru_rw,d_rt_rn,d_rt_rw,d_rn_rw⟩:=Ids.ne hnd
  obtain⟨d_rc_c,d_rm_c,d_ru_c,d_rt_c,d_rn_c,d_rw_c,d_rm_rc,d_ru_rc,d_rt_rc,d_rn_rc,d_rw_rc,d_ru_rm,d_rt_rm,d_rn_rm,d_rw_rm,d_rt_ru,d_rn_ru,d_rw_ru,d_rn_rt,d_rw_rt,d_rw_rn⟩:=Ids.ne' hnd
  simp(disch:=first|assumption|decide|omega)[f0,f6,f7,hc,hr,clc,h2,hn,hyn',h,h5,sp,c1,c2]
  refine ZhY.mk ?_
  refine⟨rfl,Nat.le_refl _,fun t ht=> ?_,⟨_,.inr (.inr ⟨r,rfl,h3,h4,?_⟩),by simp,fun r' hr=> .inl hr⟩,fun r' hr hx=> ?_⟩
  ·simp only[zt];repeat (rw[if_neg (by omega)])
  ·simp(disch:=first|assumption|decide|omega)
  ·simp only[ZCj,Option.toList,List.mem_cons,List.not_mem_nil,or_false,not_or] at hx
   simp only[atB,at1,if_neg hx.1,if_neg hx.2]
set_option maxHeartbeats 1000000 in
theorem zX1 (vu:List V) (f0:f 0=.ptr I.c 0) (f6:f 6=nv x) (hc:g I.c=.row 0 (clc I n m av)) (hr:g I.rm=.row 0 cells) (hu:g I.ru=.row 0 vu) (hn:cells.length=n) (hn2:vu.length=n) (hxn:x < n) (hnd:I.all.Nodup) (hlt:∀r∈I.all,r < nb):
 ZhY 224 (fun e f' nb' g'=> e=.normal∧nb'=nb∧(∀t,t < 122∨133 < t→f' t=f t)∧g' I.rm=.row 0 (cells.set x .nils)∧g' I.ru=.row 0 (vu.set x .nils)∧Fr [I.rm,I.ru] nb g g') (C 49 Zm (S 224 f [] (mkH nb g d))):=by
 have hxn':x≤n:=Nat.le_of_lt hxn
 have l1:=hlt I.c (by simp[Ids.all])
 have l2:=hlt I.rm (by simp[Ids.all])
 have l3:=hlt I.ru (by simp[Ids.all])
 have sp (v:V):splice cells [v] x=some (cells.set x v):=zaV (by omega)
 have sp' (v:V):splice vu [v] x=some (vu.set x v):=zaV (by omega)
 obtain⟨d_c_rc,d_c_rm,d_c_ru,d_c_rt,d_c_rn,d_c_rw,d_rc_rm,d_rc_ru,d_rc_rt,d_rc_rn,d_rc_rw,d_rm_ru,d_rm_rt,d_rm_rn,d_rm_rw,d_ru_rt,d_ru_rn,d_ru_rw,d_rt_rn,d_rt_rw,d_rn_rw⟩:=Ids.ne hnd
 obtain⟨d_rc_c,d_rm_c,d_ru_c,d_rt_c,d_rn_c,d_rw_c,d_rm_rc,d_ru_rc,d_rt_rc,d_rn_rc,d_rw_rc,d_ru_rm,d_rt_rm,d_rn_rm,d_rw_rm,d_rt_ru,d_rn_ru,d_rw_ru,d_rn_rt,d_rw_rt,d_rw_rn⟩:=Ids.ne' hnd
 simp(disch:=first|assumption|decide|omega)[f0,f6,hc,hr,hu,clc,hn,hn2,hxn',sp,sp']
 refine ZhY.mk ?_
 refine⟨rfl,rfl,fun t ht=> ?_,?_,?_,fun r hr hx=> ?_⟩
 ·simp only[zt];repeat (rw[if_neg (by omega)])
 ·simp(disch:=first|assumption|decide|omega)
 ·simp(disch:=first|assumption|decide|omega)
 ·simp only[List.mem_cons,List.not_mem_nil,or_false,not_or] at hx
  simp only[atB,at1,if_neg hx.1,if_neg hx.2]
theorem zXS {vu:List V} (f0:f 0=.ptr I.c 0) (f6:f 6=nv x) (hc:g I.c=.row 0 (clc I n m av)) (hu:g I.ru=.row 0 vu) (hn2:vu.length=n) (hx:vu[x]?=some vx) (hlt:∀r∈I.all,r < nb):
 ZhY 224 (fun e f' nb' g'=> e=.normal∧nb'=nb∧(∀t,t < 10∨(10 < t∧t < 115)∨121 < t→f' t=f t)∧f' 10=vx∧g'=g) (C 49 J9 (S 224 f [] (mkH nb g d))):=by
 have hxn:x < n:=by rw[←hn2];exact(List.getElem?_eq_some_iff.1 hx).1
 have hxn':x≤n:=Nat.le_of_lt hxn
 have h1:=za7 hx
 have l1:=hlt I.c (by simp[Ids.all])
 have l3:=hlt I.ru (by simp[Ids.all])
 simp(disch:=first|assumption|decide|omega)[f0,f6,hc,hu,clc,hn2,hxn',h1]
 refine ZhY.mk ?_
 refine⟨rfl,rfl,fun t ht=> ?_,by simp,rfl⟩
 simp only[zt];repeat (rw[if_neg (by omega)])
end
end
end
end Go.Proofs.YtdlaladdeelegaaGreat.Cg
end
