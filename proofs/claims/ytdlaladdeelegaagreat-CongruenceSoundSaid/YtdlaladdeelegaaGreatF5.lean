/- The statement, computed. -/
import Derived.Test.YtdlaladdeelegaaGreatF4
set_option linter.all false
noncomputable section
namespace Go.Proofs.YtdlaladdeelegaaGreat.Cg
open Go Go.Ae
attribute [local simp] setF ZF JC JB ZR ZS Zo ZE Jx Jw Jq Zw Zk S_h ZH Zz ZM ZK ZL zt ZO ZN Z7 Zj Jp Z8 JD JE Zt Z0 valS ZP ZQ zq zB zz zA zo Z5 zr zO Jy Jz JG JH Z1 Z2 Z3 Z4 ZI Zy JF ZT ZW ZB ZA ZY ZX ZZ xStore xLoad V.ones Je Jd Jh Jg Jf Ji Jn Jo Jm ZV Jk Jl Jj zK ZU zL JA Jt Js Ju Jr Jv Ja Jb Jc Z9 max2 cond_true cond_false List.nil_append List.cons_append zVk k7_c zU1 zUZ zU0 zU2 zVh zU3 zU4 zU9 zVa zVb zVc zVd zVe zVf zVg zU5 zU6 zU7 zU8 zVi zCt k9_c zL7 zL4 zL5 zL6 zCn zMQ zNp zNj zNk zNl zNm zNn zNo zNq zNu zNr zNs zNt zNv zNw zMc zL8 zL9 zMa zMb zv8 zNx zCs zMj zMd zMe zMf zMg zMh zMi zwa zMs zMk zMl zMm zMn zMo zMp zMq zMr zCk zCl zMB zMu zMv zMw zMx zMy zMz zMA zCm zMC zMF zMD zME zMG zMH zMJ zMK zMI zML zMR zMY zMS zMT zMU zMV zMW zMX zNc zMZ zM0 zM4 zM5 zM6 zM7 zM8 zM9 zNa zNb zM1 zM2 zM3 zMP zMM zMN zMO zMt zNh zNd zNe zNf zNg zNi
attribute [local simp] ld3 ld126 ld42 ld27 ld78 ix27v ix27h ix78h ix22v sz3 sz126 sz42 sz27 JO zK zL
attribute [-simp] zwa zv8
def fewB (t:Int) (la lm:List PrI):Bool:=decide (t≤16) && decide ((la.length:Int)≤16) && decide ((lm.length:Int)≤16)
theorem zQB {t:Int} {la lm:List PrI} {av mv:V} (hA:InS av la) (hM:InS mv lm) (h:H):callS Tryz.prog hs ks 7 [.int .i64 t,av,mv] h=some [(.ret (.bool (fewB t la lm)),h)]:=by
 obtain ⟨hA',pa⟩:=hA.shut
 obtain ⟨hM',pm⟩:=hM.shut
 generalize hav:V.shut av=av' at hA' pa
 generalize hmv:V.shut mv=mv' at hM' pm
 have key:AeRets (fun v _ _=> v=.bool (fewB t la lm)) ((EV Tryz.prog hs ks).call 7 [.int .i64 t,av',mv'] (mkH 0 (fun _=> .gone) [])):=by
  have la1:=len22 hA'
  have lm1:=len22 hM'
  rw [zVj _ (by simp)]
  by_cases h1:t≤16
  ·by_cases h2:(la.length:Int)≤16
   ·simp (disch:=first|assumption|decide|omega) [h1,h2,la1,lm1]
    refine AeRets.mk ?_
    simp [fewB,h1,h2]
   ·simp (disch:=first|assumption|decide|omega) [h1,h2,la1,lm1]
    refine AeRets.mk ?_
    simp [fewB,h1,h2]
  ·simp (disch:=first|assumption|decide|omega) [h1,la1,lm1]
   refine AeRets.mk ?_
   simp [fewB,h1]
 obtain ⟨v,nb',g',d',hc,rfl⟩:=key
 exact QV (args':=[.int .i64 t,av',mv']) (by show [V.shut (.int .i64 t),V.shut av,V.shut mv]=_;rw [hav,hmv];rfl) (by show (V.pure (.int .i64 t) && (V.pure av' && (V.pure mv' && true)))=true;rw [pa,pm];rfl) (QT (by decide)) rfl hc (fun n=> rfl) h
theorem zPZ {t:Int} {la lm:List PrI} {av mv:V} (ht:t≤16) (hA:InS av la) (hM:InS mv lm) (hLa:la.length≤16) (hLm:lm.length≤16) (hchk:chkR t la lm=2):
 AeRets (fun v _ _=> v=.tup [.nils,.int .i64 2]) ((EV Tryz.prog hs ks).call 9 [.int .i64 t,av,mv] (mkH 0 (fun _=> .gone) [])):=by
 have hck:=zDz (t:=t) ht (by omega) hA hM hLa hLm
 rw [hchk] at hck
 have hneq:binV Tryz.prog .neq 28 false true (.int .i64 2) (.int .i64 0)=some (.bool true):=rfl
 rw [zNy _ (by simp)]
 simp (disch:=first|assumption|decide|omega) [hck,hneq,zv8]
 refine AeRets.mk ?_
 rfl
inductive CloR (t:Int) (la lm:List PrI):V→Prop
 |err (h:chkR t la lm=2):CloR t la lm (.tup [.nils,.int .i64 2])
 |ok {m:Nat} {res:List Nat} (ht:t=m) (h:chkR t la lm=0) (hr:LeastC m (toK la) (toK lm) (fun _=> true) res):CloR t la lm (.tup [.vs (ints res) res.length 1 .tight,.int .i64 0])
theorem zDC (t:Int) (la lm:List PrI):chkR t la lm=0∨chkR t la lm=2:=by
 unfold chkR;split
 ·exact .inr rfl
 ·split
  ·exact .inl rfl
  ·exact .inr rfl
theorem zPY {t:Int} {la lm:List PrI} {av mv:V} (ht:t≤16) (hA:InS av la) (hM:InS mv lm) (hLa:la.length≤16) (hLm:lm.length≤16):∃v,CloR t la lm v∧∀h,callS Tryz.prog hs ks 9 [.int .i64 t,av,mv] h=some [(.ret v,h)]:=by
 obtain ⟨hA',pa⟩:=hA.shut
 obtain ⟨hM',pm⟩:=hM.shut
 have hsl:V.seals [.int .i64 t,av,mv]=[.int .i64 t,V.shut av,V.shut mv]:=rfl
 have hpu:V.pures [.int .i64 t,V.shut av,V.shut mv]=true:=by
  show (V.pure (.int .i64 t) && (V.pure (V.shut av) && (V.pure (V.shut mv) && true)))=true
  rw [pa,pm];rfl
 rcases zDC t la lm with hchk|hchk
 ·have h0:0≤t:=by
   unfold chkR at hchk
   split at hchk
   ·cases hchk
   ·omega
  obtain ⟨m,rfl⟩:∃m:Nat,t=m:=⟨t.toNat,by omega⟩
  have hP:=zCV hchk
  obtain ⟨A,hnew,hclo⟩:=zXW (used:=fun _=> true) hP (by rw [Qe];omega)
  obtain ⟨res,hmin,hl,_⟩:=hclo.least (by rw [Qe];omega)
  have hlen:=hl.len
  rw [Qe] at hlen
  obtain ⟨v,nb',g',d',hc,ro,rfl,hro,hg⟩:=zP0 (by omega) hA' hM' hLa hLm hchk hnew hmin hlen
  refine ⟨_,.ok rfl hchk hl,fun h=> QV hsl hpu (QT (by decide)) rfl hc (fun n=> ?_) h⟩
  rw [←hlen]
  exact zYz hro hg rfl 0 n
 ·obtain ⟨v,nb',g',d',hc,rfl⟩:=zPZ ht hA' hM' hLa hLm hchk
  exact ⟨_,.err hchk,fun h=> QV hsl hpu (QT (by decide)) rfl hc (fun n=> rfl) h⟩
end Go.Proofs.YtdlaladdeelegaaGreat.Cg
end
noncomputable section
namespace Go.Proofs.YtdlaladdeelegaaGreat.Cg
open Go Go.Ae
attribute [local simp] setF ZF JC JB ZR ZS Zo ZE Jx Jw Jq Zw Zk S_h ZH Zz ZM ZK ZL zt ZO ZN Z7 Zj Jp Z8 JD JE Zt Z0 valS ZP ZQ zq zB zz zA zo Z5 zr zO Jy Jz JG JH Z1 Z2 Z3 Z4 ZI Zy JF ZT ZW ZB ZA ZY ZX ZZ xStore xLoad V.ones Je Jd Jh Jg Jf Ji Jn Jo Jm ZV Jk Jl Jj zK ZU zL JA Jt Js Ju Jr Jv Ja Jb Jc Z9 max2 cond_true cond_false List.nil_append List.cons_append
attribute [local simp] ld3 ld126 ld42 ld27 ld22 ix27v ix22v JR JS sz3 sz42 sz27 sp2 JO zK zL JY JX
attribute [-simp] zo zr zq zz zA zB zO max2
theorem lt0 {a:Nat}:intOp .lss .i64 (a:Int) .i64 0=some (.bool false):=by rw [zo,decide_eq_false (by omega)]
theorem geN {a b:Nat}:intOp .geq .i64 (a:Int) .i64 (b:Int)=some (.bool (decide (b≤a))):=by rw [zO];congr 2;simp
theorem minN {get:Nat→Blk} {nid:Nat} {ts:List TypeId} {a b:Nat}:builtinV Tryz.prog false get nid .min ts [nv a,nv b]=some { v:=nv (min a b) }:=by
 rw [min2]
 congr 3
 by_cases h:b < a
 ·rw [if_pos (by omega)];omega
 ·rw [if_neg (by omega)];omega
theorem maxN {get:Nat→Blk} {nid:Nat} {ts:List TypeId} {a b:Nat}:builtinV Tryz.prog false get nid .max ts [nv a,nv b]=some { v:=nv (max a b) }:=by
 rw [max2]
 congr 3
 by_cases h:a < b
 ·rw [if_pos (by omega)];omega
 ·rw [if_neg (by omega)];omega
attribute [local simp] lt0 minN maxN
abbrev LV (res:List Nat):V:=.vs (ints res) res.length 1 .tight
end Go.Proofs.YtdlaladdeelegaaGreat.Cg
end
noncomputable section
namespace Go.Proofs.YtdlaladdeelegaaGreat.Cg
open Go Go.Ae
attribute [local simp] setF ZF JC JB ZR ZS Zo ZE Jx Jw Jq Zw Zk S_h ZH Zz ZM ZK ZL zt ZO ZN Z7 Zj Jp Z8 JD JE Zt Z0 valS ZP ZQ zq zB zz zA zo Z5 zr zO Jy Jz JG JH Z1 Z2 Z3 Z4 ZI Zy JF ZT ZW ZB ZA ZY ZX ZZ xStore xLoad V.ones Je Jd Jh Jg Jf Ji Jn Jo Jm ZV Jk Jl Jj zK ZU zL JA Jt Js Ju Jr Jv Ja Jb Jc Z9 max2 cond_true cond_false List.nil_append List.cons_append
attribute [local simp] ld3 ld126 ld42 ld27 ld22 ix27v ix22v JR JS sz3 sz42 sz27 sp2 JO zK zL JY JX lt0
attribute [-simp] zo zr zq zz zA zB zO max2
theorem zkF (h:H):callS Tryz.prog hs ks 8 [] h=some [(.ret (.bool true),h)]:=zPM (args':=[]) rfl rfl (by show (if (8:Nat)=8∧([]:List V)=[] then some (V.bool true) else none)=_;rw [if_pos ⟨rfl,rfl⟩]) h
end Go.Proofs.YtdlaladdeelegaaGreat.Cg
end
noncomputable section
namespace Go.Proofs.YtdlaladdeelegaaGreat.Cg
open Go Go.Ae
attribute [local simp] setF ZF JC JB ZR ZS Zo ZE Jx Jw Jq Zw Zk S_h ZH Zz ZM ZK ZL zt ZO ZN Z7 Zj Jp Z8 JD JE Zt Z0 valS ZP ZQ zq zB zz zA zo Z5 zr zO Jy Jz JG JH Z1 Z2 Z3 Z4 ZI Zy JF ZT ZW ZB ZA ZY ZX ZZ xStore xLoad V.ones Je Jd Jh Jg Jf Ji Jn Jo Jm ZV Jk Jl Jj zK ZU zL JA Jt Js Ju Jr Jv Ja Jb Jc Z9 max2 cond_true cond_false List.nil_append List.cons_append Za9 k6_c Zbl Zbh Zbi Zbj Zbk zZ3 zZJ ZdZ ZdL ZdM ZdR ZdS ZdT ZdU ZdV ZdW ZdX ZdY ZdN ZdO ZdP ZdQ Zeg Zet ZfJ ZfG ZfH ZfI ZfW Zfn zZ7 ZbY ZbW ZbX zZY zZZ Zb8 Zb4 Zb5 Zb6 Zb7 zZ1 Zca Zcd Zcb Zcc Zce Zcf Zch Zci Zcg Zck Zcp Zct Zcq Zcr Zcs ZcF Zcu Zcv Zcx Zcy Zcz ZcA ZcB ZcC ZcD ZcE Zcw Zco Zcl Zcm Zcn zZ0 zZ4 ZcL ZcG ZcH ZcI ZcJ ZcK zZ6 ZcO ZcR ZcP ZcQ ZcS ZcT ZcV ZcW ZcU zZE zZM Zc5 Zc0 Zc1 Zc2 Zc3 Zc4 zZN zZF ZdJ Zds Zdt ZdB ZdC ZdD ZdE ZdF ZdG ZdH ZdI Zdu Zdv Zdw Zdx Zdy Zdz ZdA ZdK Zd0 Zd5 Zd2 Zd3 Zd4 Zd6 Zd1 zZS Zc6 Zc7 Zdi Zdl Zdm Zdn Zdo Zdp Zdq Zdr Zc8 Zc9 Zda Zdb Zdc Zdd Zde Zdf Zdg Zdh Zdj Zdk zZR ZcX ZcY ZcZ zZ5 zZ8 Zd7 Zd8 zZ9 Zaa Zee Zd9 Zea Zeb Zec Zed Zad Zeh Zek Zei Zej Zel Zem Zeo Zep Zen zZU Zae Zez Zeu Zev Zew Zex Zey Zaf zZG ZeA ZeB ZeM ZeX ZeY ZeZ Ze0 Ze1 Ze2 Ze3 ZeC ZeD ZeE ZeF ZeG ZeH ZeI ZeJ ZeK ZeL ZeN ZeO ZeP ZeQ ZeR ZeS ZeT ZeU ZeV ZeW Zag zZW Ze4 Ze5 Ze6 Ze7 Ze8 Ze9 Zfa zZV Zeq Zer Zes Zac Zah Zfb Zfc Zff Zfg Zfh Zfi Zfj Zfk Zfl Zfm Zfd Zfe Zai Zaj Zfy Zfo Zfp Zfq Zfr Zfs Zft Zfu Zfv Zfw Zfx Zfz ZfA Zak Zal ZfF ZfB ZfC ZfD ZfE zZX ZfL ZfO ZfM ZfN ZfP ZfQ ZfS ZfT ZfR ZfV Zbq Zbx Zbr Zbs Zbt Zbu Zbv Zbw Zby ZbT Zbz ZbA ZbL ZbM ZbN ZbO ZbP ZbQ ZbR ZbS ZbB ZbC ZbD ZbE ZbF ZbG ZbH ZbI ZbJ ZbK ZbU ZbV Zbp Zbm Zbn Zbo Zam Zb2 ZbZ Zb0 Zb1 Zb3
attribute [local simp] ld3 ld126 ld42 ld27 ld22 ix27v ix22v JR JS sz3 sz42 sz27 sp2 JO zK zL JY JX lt0 lit27 zac
attribute [-simp] zo zr zq zz zA zB zO max2 zZS zZF zZR zZE
theorem und3':und Tryz.prog 3=.int .i64:=by kernel_rfl
theorem ld5 (cs:List V):loadV Tryz.prog 5 cs=cs.head?:=ld1 (by kernel_rfl) (by kernel_rfl) cs
theorem un43:und Tryz.prog 43=.array 16 5:=by kernel_rfl
theorem sz5:szOf Tryz.prog 5=1:=by kernel_rfl
theorem ok5:okT Tryz.prog 5=true:=by kernel_rfl
theorem ix43 {p:V} {i:Nat} (h:i < 16):indexAddr Tryz.prog 43 p (nv i)=addrAdd p i:=by
 unfold indexAddr
 simp only [asI,un43,sz5,ok5]
 rw [if_pos ⟨by omega,by omega,trivial⟩];simp
def u8s (M:List Nat):List V:=M.map fun (a:Nat)=> V.int .u8 (a:Int)
theorem Zap (M:List Nat):(u8s M).length=M.length:=List.length_map _
theorem Zgi {M:List Nat} {i a:Nat} (h:M[i]?=some a):((u8s M).drop i).head?=some (.int .u8 (a:Int)):=by
 rw [List.head?_drop];unfold u8s;rw [List.getElem?_map,h];rfl
theorem conv3 {a:Nat} (h:a < 256):xConv (und Tryz.prog 3) (.int .u8 (a:Int))=some { v:=nv a }:=by
 rw [und3']
 show some ({ v:=.int .i64 (IntKind.wrap .i64 (a:Int)) }:Eff)=_
 rw [za4 (by omega) (by omega)]
theorem rem4 {a:Nat}:intOp .rem .i64 (a:Int) .i64 4=some (nv (a % 4)):=rfl
theorem mul4 {a:Nat} (h:a < 4):intOp .mul .i64 4 .i64 (a:Int)=some (nv (4 * a)):=by
 show some (V.int .i64 (IntKind.wrap .i64 (4 * (a:Int))))=_
 rw [za4 (by omega) (by omega)]
 congr 2
attribute [local simp] ld5 ix43 sz5 conv3 mul4
structure SndI (m:Nat) (av mv:V) (M vals:List Nat) (f:Nat→V) (nb:Nat) (g:Nat→Blk):Prop where
 f2:f 2=.ptr 0 0
 f3:f 3=.ptr 1 0
 hnb:2≤nb
 g0:g 0=.row 0 [nv m,av,mv]
 g1:g 1=.row 0 (u8s M)
 sl:SlR g 2 nb (f 5) vals
theorem SlR.get {g:Nat→Blk} {lo nb:Nat} {v:V} {l:List Nat} (h:SlR g lo nb v l) (hl:l≠[]):∃o,v=.vs (ints l) l.length 1 o:=by
 rcases h with ⟨_,h⟩|h|⟨r,h,_⟩
 ·exact absurd h hl
 ·exact ⟨_,h⟩
 ·exact ⟨_,h⟩
set_option maxHeartbeats 2000000 in
theorem Zgp {m:Nat} {av mv:V} {M:List Nat} (hm:m≤16) (hM:M.length=32) (hM8:∀a∈M,a < 256):
 ∀(k i:Nat) (vals:List Nat) (f:Nat→V) (nb:Nat) (g:Nat→Blk) (d:List Nat),m - i=k→i≤m→vals.length=i→(∀x∈vals,x < 4)→SndI m av mv M vals f nb g→f 31=nv m→f 32=nv i→
 AeEnds 177 (fun e f' nb' g'=> e=.exit 0∧∃vals:List Nat,vals.length=m∧(∀x∈vals,x < 4)∧SndI m av mv M vals f' nb' g') (C 6 zZ2 (S 177 f [] (mkH nb g d))):=by
 intro k
 induction k with
 |zero=>
  intro i vals f nb g d hk hi hv h4 hI f31 f32
  obtain ⟨f2,f3,hnb,g0,g1,hs⟩:=hI
  obtain rfl:i=m:=by omega
  have e2:intOp .lss .i64 (i:Int) .i64 (i:Int)=some (.bool false):=by rw [ltN];simp
  rw [Zgg]
  simp (disch:=first|assumption|decide|omega) [f31,f32,e2]
  refine AeEnds.mk ?_
  refine ⟨rfl,vals,hv,h4,?_,?_,hnb,g0,g1,?_⟩
  ·simp [f2]
  ·simp [f3]
  ·simpa using hs
 |succ k ih=>
  intro i vals f nb g d hk hi hv h4 hI f31 f32
  obtain ⟨f2,f3,hnb,g0,g1,hs⟩:=hI
  have him:i < m:=by omega
  have hi16:i < 16:=by omega
  have hki:m - (i+1)=k:=by omega
  have hiM:i < M.length:=by omega
  have hg:M[i]?=some M[i]:=List.getElem?_eq_getElem hiM
  have ha8:M[i] < 256:=hM8 _ (List.getElem_mem hiM)
  generalize M[i]=a at hg ha8
  have h1:=Zgi hg
  obtain ⟨b,hb,hb4⟩:∃b,intOp .rem .i64 (a:Int) .i64 4=some (nv b)∧b < 4:=⟨a % 4,rem4,by omega⟩
  have hi32:i≤32:=by omega
  have e1:=add1 (a:=i) (by omega)
  have e2:intOp .lss .i64 (i:Int) .i64 (m:Int)=some (.bool true):=by rw [ltN];simp [him]
  have n1:¬1=nb:=by omega
  have n0:¬0=nb:=by omega
  have hv':(vals++[b]).length=i+1:=by rw [List.length_append,hv];rfl
  have h4':∀x∈vals++[b],x < 4:=fun x hx=> by
   rcases List.mem_append.1 hx with hx|hx
   ·exact h4 x hx
   ·rw [List.mem_singleton.1 hx];exact hb4
  rw [Zgg]
  rcases app27 (g:=g) (lo:=2) (nb:=nb) hs (zyx b) (by rw [hv'];omega) with ⟨h,hsv⟩|⟨h⟩|⟨r,e,cs,len,cx,lx,zx,ox,hy,hx,q1,q2,q3,h⟩
  ·simp (disch:=first|assumption|decide|omega) [f3,f31,f32,g1,e1,e2,Zap,hM,hi32,hb,h1,h]
   refine (ih (i+1) (vals++[b]) _ _ _ _ hki him hv' h4' ⟨?_,?_,hnb,g0,g1,?_⟩ ?_ ?_).weak fun e f' nb' g' h=> h
   ·simp [f2]
   ·simp [f3]
   ·simpa using hsv
   ·simp [f31]
   ·simp
  ·simp (disch:=first|assumption|decide|omega) [f3,f31,f32,g1,e1,e2,Zap,hM,hi32,hb,h1,h]
   have hnb':2≤nb+1:=by omega
   refine (ih (i+1) (vals++[b]) _ _ _ _ hki him hv' h4' ⟨?_,?_,hnb',?_,?_,?_⟩ ?_ ?_).weak fun e f' nb' g' h=> h
   ·simp [f2]
   ·simp [f3]
   ·simp (disch:=first|assumption|decide|omega) [g0]
   ·simp (disch:=first|assumption|decide|omega) [g1]
   ·refine .inr (.inr ⟨nb,?_,hnb,by omega,?_⟩)
    ·simp
    ·simp
   ·simp [f31]
   ·simp
  ·cases hx
   have n1':¬1=r:=by omega
   have n0':¬0=r:=by omega
   simp (disch:=first|assumption|decide|omega) [f3,f31,f32,g1,e1,e2,Zap,hM,hi32,hb,h1,hy,h,q3]
   refine (ih (i+1) (vals++[b]) _ _ _ _ hki him hv' h4' ⟨?_,?_,hnb,?_,?_,?_⟩ ?_ ?_).weak fun e f' nb' g' h=> h
   ·simp [f2]
   ·simp [f3]
   ·simp (disch:=first|assumption|decide|omega) [g0]
   ·simp (disch:=first|assumption|decide|omega) [g1]
   ·refine .inr (.inr ⟨r,?_,q1,q2,?_⟩)
    ·simp
    ·simp
   ·simp [f31]
   ·simp
end Go.Proofs.YtdlaladdeelegaaGreat.Cg
end
noncomputable section
namespace Go.Proofs.YtdlaladdeelegaaGreat.Cg
open Go Go.Ae
attribute [local simp] setF ZF JC JB ZR ZS Zo ZE Jx Jw Jq Zw Zk S_h ZH Zz ZM ZK ZL zt ZO ZN Z7 Zj Jp Z8 JD JE Zt Z0 valS ZP ZQ zq zB zz zA zo Z5 zr zO Jy Jz JG JH Z1 Z2 Z3 Z4 ZI Zy JF ZT ZW ZB ZA ZY ZX ZZ xStore xLoad V.ones Je Jd Jh Jg Jf Ji Jn Jo Jm ZV Jk Jl Jj zK ZU zL JA Jt Js Ju Jr Jv Ja Jb Jc Z9 max2 cond_true cond_false List.nil_append List.cons_append Za9 k6_c Zbl Zbh Zbi Zbj Zbk zZ3 zZJ ZdZ ZdL ZdM ZdR ZdS ZdT ZdU ZdV ZdW ZdX ZdY ZdN ZdO ZdP ZdQ Zeg Zet ZfJ ZfG ZfH ZfI ZfW Zfn zZ7 ZbY ZbW ZbX zZY zZZ Zb8 Zb4 Zb5 Zb6 Zb7 zZ1 Zca Zcd Zcb Zcc Zce Zcf Zch Zci Zcg Zck Zcp Zct Zcq Zcr Zcs ZcF Zcu Zcv Zcx Zcy Zcz ZcA ZcB ZcC ZcD ZcE Zcw Zco Zcl Zcm Zcn zZ0 zZ4 ZcL ZcG ZcH ZcI ZcJ ZcK zZ6 ZcO ZcR ZcP ZcQ ZcS ZcT ZcV ZcW ZcU zZE zZM Zc5 Zc0 Zc1 Zc2 Zc3 Zc4 zZN zZF ZdJ Zds Zdt ZdB ZdC ZdD ZdE ZdF ZdG ZdH ZdI Zdu Zdv Zdw Zdx Zdy Zdz ZdA ZdK Zd0 Zd5 Zd2 Zd3 Zd4 Zd6 Zd1 zZS Zc6 Zc7 Zdi Zdl Zdm Zdn Zdo Zdp Zdq Zdr Zc8 Zc9 Zda Zdb Zdc Zdd Zde Zdf Zdg Zdh Zdj Zdk zZR ZcX ZcY ZcZ zZ5 zZ8 Zd7 Zd8 zZ9 Zaa Zee Zd9 Zea Zeb Zec Zed Zad Zeh Zek Zei Zej Zel Zem Zeo Zep Zen zZU Zae Zez Zeu Zev Zew Zex Zey Zaf zZG ZeA ZeB ZeM ZeX ZeY ZeZ Ze0 Ze1 Ze2 Ze3 ZeC ZeD ZeE ZeF ZeG ZeH ZeI ZeJ ZeK ZeL ZeN ZeO ZeP ZeQ ZeR ZeS ZeT ZeU ZeV ZeW Zag zZW Ze4 Ze5 Ze6 Ze7 Ze8 Ze9 Zfa zZV Zeq Zer Zes Zac Zah Zfb Zfc Zff Zfg Zfh Zfi Zfj Zfk Zfl Zfm Zfd Zfe Zai Zaj Zfy Zfo Zfp Zfq Zfr Zfs Zft Zfu Zfv Zfw Zfx Zfz ZfA Zak Zal ZfF ZfB ZfC ZfD ZfE zZX ZfL ZfO ZfM ZfN ZfP ZfQ ZfS ZfT ZfR ZfV Zbq Zbx Zbr Zbs Zbt Zbu Zbv Zbw Zby ZbT Zbz ZbA ZbL ZbM ZbN ZbO ZbP ZbQ ZbR ZbS ZbB ZbC ZbD ZbE ZbF ZbG ZbH ZbI ZbJ ZbK ZbU ZbV Zbp Zbm Zbn Zbo Zam Zb2 ZbZ Zb0 Zb1 Zb3
attribute [local simp] ld3 ld126 ld42 ld27 ld22 ld5 ix27v ix22v JR JS ix43 sz3 sz42 sz27 sz5 conv3 sp2 JO zK zL JY JX lt0 lit27 zac minN maxN
attribute [-simp] zo zr zq zz zA zB zO max2 zZS zZF zZR zZE zZM zZN
structure SVals (m:Nat) (M:List Nat) (la:List PrI) (i:Nat) (vals:List Nat):Prop where
 len:vals.length=m+i
 lt4:∀x∈vals,x < 4
 ok:∀(j:Nat) (p:PrI),la[j]?=some p→j < i→wit p ((m:Int)+j)=true
 val:∀(j:Nat) (p:PrI),la[j]?=some p→j < i→∃x y a:Nat,vals[p.1.toNat]?=some x∧vals[p.2.toNat]?=some y∧M[16+(4 * x+y)]?=some a∧vals[m+j]?=some (a % 4)
theorem SVals.app {m i:Nat} {M vals:List Nat} {la:List PrI} (h:SVals m M la i vals) {x y vx vy a:Nat} (hg:la[i]?=some ((x:Int),(y:Int))) (hx:vals[x]?=some vx) (hy:vals[y]?=some vy) (ha:M[16+(4 * vx+vy)]?=some a):SVals m M la (i+1) (vals++[a % 4]):=by
 have hl:=h.len
 have lx:=(List.getElem?_eq_some_iff.1 hx).1
 have ly:=(List.getElem?_eq_some_iff.1 hy).1
 have up:∀(t z:Nat),vals[t]?=some z→(vals++[a % 4])[t]?=some z:=fun t z ht=> by
  rw [List.getElem?_append_left (List.getElem?_eq_some_iff.1 ht).1];exact ht
 refine ⟨by rw [List.length_append,hl];rfl,fun z hz=> ?_,fun j p hj hji=> ?_,fun j p hj hji=> ?_⟩
 ·rcases List.mem_append.1 hz with hz|hz
  ·exact h.lt4 z hz
  ·rw [List.mem_singleton.1 hz];omega
 ·by_cases hj':j=i
  ·subst hj'
   rw [hg] at hj;cases hj
   simp only [wit,Bool.and_eq_true,decide_eq_true_eq]
   omega
  ·exact h.ok j p hj (by omega)
 ·by_cases hj':j=i
  ·subst hj'
   rw [hg] at hj;cases hj
   refine ⟨vx,vy,a,up _ _ hx,up _ _ hy,ha,?_⟩
   rw [List.getElem?_append_right (by omega),show m+j - vals.length=0 by omega];rfl
  ·obtain ⟨x',y',a',h1,h2,h3,h4⟩:=h.val j p hj (by omega)
   exact ⟨x',y',a',up _ _ h1,up _ _ h2,h3,up _ _ h4⟩
theorem minI {get:Nat→Blk} {nid:Nat} {ts:List TypeId} {a b:Int}:builtinV Tryz.prog false get nid .min ts [.int .i64 a,.int .i64 b]=some { v:=.int .i64 (min a b) }:=by
 rw [min2]
 congr 3
 rw [Int.min_def];split <;> split <;> omega
theorem maxI {get:Nat→Blk} {nid:Nat} {ts:List TypeId} {a b:Int}:builtinV Tryz.prog false get nid .max ts [.int .i64 a,.int .i64 b]=some { v:=.int .i64 (max a b) }:=by
 rw [max2]
 congr 3
 rw [Int.max_def];split <;> split <;> omega
set_option maxHeartbeats 4000000 in
theorem Zgv {m:Nat} {av mv:V} {M vals:List Nat} {la:List PrI} {o:Own} {i:Nat} {p:PrI} (hla:la.length≤16) (hil:i < la.length) (hg:la[i]?=some p) (hw:wit p vals.length=false) (hvl:vals.length < 100) {f:Nat→V} {nb:Nat} {g:Nat→Blk} {d:List Nat} (hI:SndI m av mv M vals f nb g) (f46:f 46=.vs (prsI la) la.length 2 o) (f47:f 47=nv la.length) (f48:f 48=nv i):
 AeEnds 177 (fun e f' _ _=> e=.ret∧f' 4=.bool true) (C 6 zZK (S 177 f [] (mkH nb g d))):=by
 obtain ⟨f2,f3,hnb,g0,g1,hs⟩:=hI
 have h4:=zyp hg
 have e2:intOp .lss .i64 (i:Int) .i64 (la.length:Int)=some (.bool true):=by rw [ltN];simp [hil]
 have h5:=len27 hs.slv
 rw [ZcN]
 by_cases h1:min p.1 p.2 < 0
 ·have w1:intOp .lss .i64 (min p.1 p.2) .i64 0=some (.bool true):=by rw [zo];simp [h1]
  simp (disch:=first|assumption|decide|omega) [f46,f47,f48,e2,zZE,zZM,zZN,zZF,h4,minI,maxI,w1,zkF]
  refine AeEnds.mk ?_
  exact ⟨rfl,by simp⟩
 ·have w1:intOp .lss .i64 (min p.1 p.2) .i64 0=some (.bool false):=by rw [zo];simp [h1]
  have w2:intOp .geq .i64 (max p.1 p.2) .i64 (vals.length:Int)=some (.bool true):=by
   rw [zO]
   simp only [wit,Bool.and_eq_false_iff,decide_eq_false_iff_not] at hw
   have:(vals.length:Int)≤max p.1 p.2:=by omega
   simp [this]
  simp (disch:=first|assumption|decide|omega) [f46,f47,f48,e2,zZE,zZM,zZN,zZF,h4,h5,minI,maxI,w1,w2,zkF]
  refine AeEnds.mk ?_
  exact ⟨rfl,by simp⟩
set_option maxHeartbeats 8000000 in
theorem Zgx {m:Nat} {av mv:V} {M vals:List Nat} {la:List PrI} {o:Own} {i:Nat} {x y:Nat} (hm:m≤16) (hla:la.length≤16) (hM:M.length=32) (hM8:∀a∈M,a < 256) (hil:i < la.length) (hg:la[i]?=some ((x:Int),(y:Int))) (hx:x < vals.length) (hy:y < vals.length) (hV:SVals m M la i vals) {f:Nat→V} {nb:Nat} {g:Nat→Blk} {d:List Nat} (hI:SndI m av mv M vals f nb g) (f46:f 46=.vs (prsI la) la.length 2 o) (f47:f 47=nv la.length) (f48:f 48=nv i):
 AeEnds 177 (fun e f' nb' g'=> e=.normal∧(∃vals,SVals m M la (i+1) vals∧SndI m av mv M vals f' nb' g')∧f' 46=.vs (prsI la) la.length 2 o∧f' 47=nv la.length∧f' 48=nv i) (C 6 ZaI (S 177 f [] (mkH nb g d))):=by
 have hl:=hV.len
 have hnbo:=hI.hnb
 have h4:=zyp hg
 rw [zZE]
 refine AeEnds.block (Q:=fun e f' nb' g'=> e=.normal∧(∃vals,SVals m M la (i+1) vals∧SndI m av mv M vals f' nb' g')∧f' 46=.vs (prsI la) la.length 2 o∧f' 47=nv la.length∧f' 48=nv i) ?_ (fun f' nb' g' h=> by cases h.1) fun e f' nb' g' _ h=> h
 rw [zZM]
 refine AeEnds.seq (P:=fun f' nb' g'=> SndI m av mv M vals f' nb' g'∧nb'=nb+1∧g' nb=.row 0 [nv x,nv y]∧f' 8=.ptr nb 0∧f' 46=.vs (prsI la) la.length 2 o∧f' 47=nv la.length∧f' 48=nv i) ?_ ?_
 ·obtain ⟨f2,f3,hnb,g0,g1,hs⟩:=hI
  simp (disch:=first|assumption|decide|omega) [f46,f48,h4]
  refine AeEnds.mk ?_
  have n0:¬0=nb:=by omega
  have n1:¬1=nb:=by omega
  refine ⟨rfl,⟨?_,?_,?_,?_,?_,?_⟩,rfl,?_,?_,?_,?_,?_⟩
  ·simp [f2]
  ·simp [f3]
  ·omega
  ·simp (disch:=first|assumption|decide|omega) [g0]
  ·simp (disch:=first|assumption|decide|omega) [g1]
  ·rcases hs with h|h|⟨r,h1,h2,h3,h4⟩
   ·exact .inl (by simpa using h)
   ·exact .inr (.inl (by simpa using h))
   ·have n2:¬r=nb:=by omega
    exact .inr (.inr ⟨r,by simpa using h1,h2,by omega,by simp (disch:=first|assumption|decide|omega) [h4]⟩)
  ·simp
  ·simp
  ·simp [f46]
  ·simp [f47]
  ·simp [f48]
 rintro f nb2 g d ⟨hI,rfl,gt,f8,f46,f47,f48⟩
 rw [zZN]
 refine AeEnds.seq (P:=fun f' nb' g'=> SndI m av mv M vals f' nb' g'∧nb'=nb+1∧g' nb=.row 0 [nv x,nv y]∧f' 8=.ptr nb 0∧f' 46=.vs (prsI la) la.length 2 o∧f' 47=nv la.length∧f' 48=nv i) ?_ ?_
 ·obtain ⟨f2,f3,hnb,g0,g1,hs⟩:=hI
  have h5:=len27 hs.slv
  have e3:intOp .geq .i64 ((max x y:Nat):Int) .i64 (vals.length:Int)=some (.bool false):=by rw [geN];simp;omega
  rw [zZF]
  simp (disch:=first|assumption|decide|omega) [f8,gt,h5,e3]
  refine AeEnds.mk ?_
  refine ⟨rfl,⟨?_,?_,hnb,g0,g1,?_⟩,rfl,gt,?_,?_,?_,?_⟩
  ·simp [f2]
  ·simp [f3]
  ·simpa using hs
  ·simp [f8]
  ·simp [f46]
  ·simp [f47]
  ·simp [f48]
 rintro f nb2 g d ⟨⟨f2,f3,hnb,g0,g1,hs⟩,rfl,gt,f8,f46,f47,f48⟩
 have ex:vals[x]?=some vals[x]:=List.getElem?_eq_getElem hx
 have ey:vals[y]?=some vals[y]:=List.getElem?_eq_getElem hy
 have lx:vals[x] < 4:=hV.lt4 _ (List.getElem_mem hx)
 have ly:vals[y] < 4:=hV.lt4 _ (List.getElem_mem hy)
 generalize vals[x]=vx at ex lx
 generalize vals[y]=vy at ey ly
 obtain ⟨q,hq,hq4⟩:∃q,intOp .mul .i64 4 .i64 (vx:Int)=some (nv q)∧q=4 * vx:=⟨4 * vx,mul4 lx,rfl⟩
 obtain ⟨j,hj,hjq⟩:∃j,intOp .add .i64 (q:Int) .i64 (vy:Int)=some (nv j)∧j=q+vy:=⟨q+vy,addN (by omega),rfl⟩
 have hj16:j < 16:=by omega
 have hjM:16+j < M.length:=by omega
 have hga:M[16+j]?=some M[16+j]:=List.getElem?_eq_getElem hjM
 have ha8:M[16+j] < 256:=hM8 _ (List.getElem_mem hjM)
 generalize M[16+j]=a at hga ha8
 have h1:=Zgi hga
 have hV':=hV.app hg ex ey (by rw [←hq4,←hjq];exact hga)
 obtain ⟨b,hb,hb4⟩:∃b,intOp .rem .i64 (a:Int) .i64 4=some (nv b)∧b=a % 4:=⟨a % 4,rem4,rfl⟩
 rw [←hb4] at hV'
 have gx:=Zp ex
 have gy:=Zp ey
 obtain ⟨ov,hov⟩:=hs.get (fun hh=> by rw [hh] at hx;cases hx)
 have hi32:16+j≤32:=by omega
 have n0:¬0=nb:=by omega
 have n1:¬1=nb:=by omega
 have hv':(vals++[b]).length < 100000:=by rw [List.length_append,hl];simp;omega
 rw [zZS]
 rcases app27 (g:=g) (lo:=2) (nb:=nb+1) hs (zyx b) hv' with ⟨h,hsv⟩|⟨h⟩|⟨r,e,cs,len,cx,lx',zx,ox,hy',hx',q1,q2,q3,h⟩
 ·rw [hov] at h
  simp (disch:=first|assumption|decide|omega) [hov,f3,f8,gt,g1,gx,gy,hq,hj,Zap,hM,hi32,h1,hb,h]
  refine AeEnds.mk ?_
  refine ⟨rfl,⟨vals++[b],hV',⟨?_,?_,hnb,g0,g1,?_⟩⟩,?_,?_,?_⟩
  ·simp [f2]
  ·simp [f3]
  ·rw [hov] at hsv;simpa using hsv
  ·simp [f46]
  ·simp [f47]
  ·simp [f48]
 ·rw [hov] at h
  simp (disch:=first|assumption|decide|omega) [hov,f3,f8,gt,g1,gx,gy,hq,hj,Zap,hM,hi32,h1,hb,h]
  refine AeEnds.mk ?_
  refine ⟨rfl,⟨vals++[b],hV',⟨?_,?_,by omega,?_,?_,?_⟩⟩,?_,?_,?_⟩
  ·simp [f2]
  ·simp [f3]
  ·simp (disch:=first|assumption|decide|omega) [g0]
  ·simp (disch:=first|assumption|decide|omega) [g1]
  ·refine .inr (.inr ⟨nb+1,?_,hnb,by omega,?_⟩)
   ·simp
   ·simp
  ·simp [f46]
  ·simp [f47]
  ·simp [f48]
 ·cases hx'
  rw [hov] at hy'
  cases hy'
  have n1':¬1=r:=by omega
  have n0':¬0=r:=by omega
  have n1'':¬r=1:=by omega
  have ntr:¬r=nb:=by
   intro hh;subst hh;rw [q3] at gt;cases gt
  have ntr':¬nb=r:=fun hh=> ntr hh.symm
  simp (disch:=first|assumption|decide|omega) [hov,f3,f8,gt,g1,gx,gy,hq,hj,Zap,hM,hi32,h1,hb,h,q3]
  refine AeEnds.mk ?_
  refine ⟨rfl,⟨vals++[b],hV',⟨?_,?_,hnb,?_,?_,?_⟩⟩,?_,?_,?_⟩
  ·simp [f2]
  ·simp [f3]
  ·simp (disch:=first|assumption|decide|omega) [g0]
  ·simp (disch:=first|assumption|decide|omega) [g1]
  ·refine .inr (.inr ⟨r,?_,q1,q2,?_⟩)
   ·simp
   ·simp
  ·simp [f46]
  ·simp [f47]
  ·simp [f48]
set_option maxHeartbeats 4000000 in
theorem Zgq {m:Nat} {av mv:V} {M:List Nat} {la:List PrI} {o:Own} (hm:m≤16) (hla:la.length≤16) (hM:M.length=32) (hM8:∀a∈M,a < 256):
 ∀(k i:Nat) (vals:List Nat) (f:Nat→V) (nb:Nat) (g:Nat→Blk) (d:List Nat),la.length - i=k→i≤la.length→SVals m M la i vals→SndI m av mv M vals f nb g→f 46=.vs (prsI la) la.length 2 o→f 47=nv la.length→f 48=nv i→
 AeEnds 177 (fun e f' nb' g'=> (e=.ret∧f' 4=.bool true)∨(e=.exit 2∧∃vals:List Nat,SVals m M la la.length vals∧SndI m av mv M vals f' nb' g')) (C 6 zZK (S 177 f [] (mkH nb g d))):=by
 intro k
 induction k with
 |zero=>
  intro i vals f nb g d hk hi hV hI f46 f47 f48
  obtain ⟨f2,f3,hnb,g0,g1,hs⟩:=hI
  obtain rfl:i=la.length:=by omega
  have e2:intOp .lss .i64 (la.length:Int) .i64 (la.length:Int)=some (.bool false):=by rw [ltN];simp
  rw [ZcN]
  simp (disch:=first|assumption|decide|omega) [f47,f48,e2]
  refine AeEnds.mk ?_
  refine .inr ⟨rfl,vals,hV,?_,?_,hnb,g0,g1,?_⟩
  ·simp [f2]
  ·simp [f3]
  ·simpa using hs
 |succ k ih=>
  intro i vals f nb g d hk hi hV hI f46 f47 f48
  have hl:=hV.len
  have hil:i < la.length:=by omega
  have hg:la[i]?=some la[i]:=List.getElem?_eq_getElem hil
  generalize la[i]=p at hg
  cases hw:wit p vals.length with
  |false=> exact (Zgv (o:=o) hla hil hg hw (by omega) hI f46 f47 f48).weak fun e f' _ _ h=> .inl h
  |true=>
   obtain ⟨b1,b2,b3,b4⟩:=zjp hw
   obtain ⟨x,y,rfl⟩:∃x y:Nat,p=((x:Int),(y:Int)):=⟨p.1.toNat,p.2.toNat,by rw [Int.toNat_of_nonneg b1,Int.toNat_of_nonneg b2]⟩
   have hx:x < vals.length:=by have b3:(x:Int) < vals.length:=b3;omega
   have hy:y < vals.length:=by have b4:(y:Int) < vals.length:=b4;omega
   have e1:=add1 (a:=i) (by omega)
   have e2:intOp .lss .i64 (i:Int) .i64 (la.length:Int)=some (.bool true):=by rw [ltN];simp [hil]
   rw [ZcN]
   simp (disch:=first|assumption|decide|omega) [f47,f48,e2]
   refine AeEnds.seq (P:=fun f' nb' g'=> (∃vals,SVals m M la (i+1) vals∧SndI m av mv M vals f' nb' g')∧f' 46=.vs (prsI la) la.length 2 o∧f' 47=nv la.length∧f' 48=nv (i+1)) ?_ ?_
   ·refine AeEnds.seq (P:=fun f' nb' g'=> (∃vals,SVals m M la (i+1) vals∧SndI m av mv M vals f' nb' g')∧f' 46=.vs (prsI la) la.length 2 o∧f' 47=nv la.length∧f' 48=nv i) (Zgx (o:=o) hm hla hM hM8 hil hg hx hy hV ⟨?_,?_,hI.hnb,hI.g0,hI.g1,?_⟩ ?_ ?_ ?_) ?_
    ·simp [hI.f2]
    ·simp [hI.f3]
    ·simpa using hI.sl
    ·simp [f46]
    ·simp [f47]
    ·simp [f48]
    ·rintro f nb g d ⟨⟨vals',hV',f2,f3,hnb,g0,g1,hs⟩,f46,f47,f48⟩
     rw [zZR]
     simp (disch:=first|assumption|decide|omega) [f48,e1]
     refine AeEnds.mk ?_
     refine ⟨rfl,⟨vals',hV',?_,?_,hnb,g0,g1,?_⟩,?_,?_,?_⟩
     ·simp [f2]
     ·simp [f3]
     ·simpa using hs
     ·simp [f46]
     ·simp [f47]
     ·simp
   ·rintro f nb g d ⟨⟨vals',hV',hI'⟩,f46,f47,f48⟩
    exact ih (i+1) vals' f nb g d (by omega) hil hV' hI' f46 f47 f48
end Go.Proofs.YtdlaladdeelegaaGreat.Cg
end
noncomputable section
namespace Go.Proofs.YtdlaladdeelegaaGreat.Cg
open Go Go.Ae
attribute [local simp] setF ZF JC JB ZR ZS Zo ZE Jx Jw Jq Zw Zk S_h ZH Zz ZM ZK ZL zt ZO ZN Z7 Zj Jp Z8 JD JE Zt Z0 valS ZP ZQ zq zB zz zA zo Z5 zr zO Jy Jz JG JH Z1 Z2 Z3 Z4 ZI Zy JF ZT ZW ZB ZA ZY ZX ZZ xStore xLoad V.ones Je Jd Jh Jg Jf Ji Jn Jo Jm ZV Jk Jl Jj zK ZU zL JA Jt Js Ju Jr Jv Ja Jb Jc Z9 max2 cond_true cond_false List.nil_append List.cons_append Za9 k6_c Zbl Zbh Zbi Zbj Zbk zZ3 zZJ ZdZ ZdL ZdM ZdR ZdS ZdT ZdU ZdV ZdW ZdX ZdY ZdN ZdO ZdP ZdQ Zeg Zet ZfJ ZfG ZfH ZfI ZfW Zfn zZ7 ZbY ZbW ZbX zZY zZZ Zb8 Zb4 Zb5 Zb6 Zb7 zZ1 Zca Zcd Zcb Zcc Zce Zcf Zch Zci Zcg Zck Zcp Zct Zcq Zcr Zcs ZcF Zcu Zcv Zcx Zcy Zcz ZcA ZcB ZcC ZcD ZcE Zcw Zco Zcl Zcm Zcn zZ0 zZ4 ZcL ZcG ZcH ZcI ZcJ ZcK zZ6 ZcO ZcR ZcP ZcQ ZcS ZcT ZcV ZcW ZcU zZE zZM Zc5 Zc0 Zc1 Zc2 Zc3 Zc4 zZN zZF ZdJ Zds Zdt ZdB ZdC ZdD ZdE ZdF ZdG ZdH ZdI Zdu Zdv Zdw Zdx Zdy Zdz ZdA ZdK Zd0 Zd5 Zd2 Zd3 Zd4 Zd6 Zd1 zZS Zc6 Zc7 Zdi Zdl Zdm Zdn Zdo Zdp Zdq Zdr Zc8 Zc9 Zda Zdb Zdc Zdd Zde Zdf Zdg Zdh Zdj Zdk zZR ZcX ZcY ZcZ zZ5 zZ8 Zd7 Zd8 zZ9 Zaa Zee Zd9 Zea Zeb Zec Zed Zad Zeh Zek Zei Zej Zel Zem Zeo Zep Zen zZU Zae Zez Zeu Zev Zew Zex Zey Zaf zZG ZeA ZeB ZeM ZeX ZeY ZeZ Ze0 Ze1 Ze2 Ze3 ZeC ZeD ZeE ZeF ZeG ZeH ZeI ZeJ ZeK ZeL ZeN ZeO ZeP ZeQ ZeR ZeS ZeT ZeU ZeV ZeW Zag zZW Ze4 Ze5 Ze6 Ze7 Ze8 Ze9 Zfa zZV Zeq Zer Zes Zac Zah Zfb Zfc Zff Zfg Zfh Zfi Zfj Zfk Zfl Zfm Zfd Zfe Zai Zaj Zfy Zfo Zfp Zfq Zfr Zfs Zft Zfu Zfv Zfw Zfx Zfz ZfA Zak Zal ZfF ZfB ZfC ZfD ZfE zZX ZfL ZfO ZfM ZfN ZfP ZfQ ZfS ZfT ZfR ZfV Zbq Zbx Zbr Zbs Zbt Zbu Zbv Zbw Zby ZbT Zbz ZbA ZbL ZbM ZbN ZbO ZbP ZbQ ZbR ZbS ZbB ZbC ZbD ZbE ZbF ZbG ZbH ZbI ZbJ ZbK ZbU ZbV Zbp Zbm Zbn Zbo Zam Zb2 ZbZ Zb0 Zb1 Zb3
theorem okU22:okU Tryz.prog 22=true:=by kernel_rfl
theorem okZ42:okZ Tryz.prog 42=true:=by kernel_rfl
theorem by42:bytesOf Tryz.prog 42=16:=by kernel_rfl
theorem room42 {m:Nat} (h:m < 1000000):roomOk Tryz.prog 42 m:=by unfold roomOk;rw [by42];omega
def SlP (g:Nat→Blk) (lo nb:Nat) (v:V) (l:List PrI):Prop:=
 (v=.nils∧l=[])∨v=.vs (prsI l) l.length 2 .tight∨∃r,v=.vs (prsI l) l.length 2 (.tok r l.length)∧lo≤r∧r < nb∧g r=.tok l.length
theorem SlP.ins {g:Nat→Blk} {lo nb:Nat} {v:V} {l:List PrI} (h:SlP g lo nb v l):InS v l:=by
 rcases h with ⟨h,h'⟩|h|⟨r,h,_⟩
 ·exact .inl ⟨h,h'⟩
 ·exact .inr (.inr ⟨_,h⟩)
 ·exact .inr (.inr ⟨_,h⟩)
theorem Zgm (l:List PrI) (p:PrI):prsI l++[.int .i64 p.1,.int .i64 p.2]=prsI (l++[p]):=by
 unfold prsI;rw [List.flatMap_append];rfl
theorem app22 {g:Nat→Blk} {lo nb:Nat} {vy:V} {l:List PrI} {p:PrI} (hy:SlP g lo nb vy l) (hl:l.length < 1000):
 (∀get nid,builtinV Tryz.prog false get nid .append [22,22] [vy,.vs [.int .i64 p.1,.int .i64 p.2] 1 2 .tight]=some { v:=.vs (prsI (l++[p])) (l++[p]).length 2 (.tok nid (l++[p]).length),nw:=[.tok (l++[p]).length] })∨
 ∃r,vy=.vs (prsI l) l.length 2 (.tok r l.length)∧lo≤r∧r < nb∧g r=.tok l.length∧∀nid,appB [22,22] (.tok l.length) nid (prsI l) l.length 2 r l.length (.vs [.int .i64 p.1,.int .i64 p.2] 1 2 .tight)=some { v:=.vs (prsI (l++[p])) (l++[p]).length 2 (.tok r (l++[p]).length),rd:=[r],wr:=[(r,.tok (l++[p]).length)] }:=by
 have one:V.ones [.int .i64 p.1,.int .i64 p.2]=true:=rfl
 have sea:V.seals [.int .i64 p.1,.int .i64 p.2]=[.int .i64 p.1,.int .i64 p.2]:=rfl
 have pur:V.pures [.int .i64 p.1,.int .i64 p.2]=true:=rfl
 have e:=Zgm l p
 have hr1:=room42 (m:=1) (by omega)
 have hr2:=room42 (m:=l.length+1) (by omega)
 have el:(l++[p]).length=l.length+1:=by rw [List.length_append];rfl
 rw [el]
 rcases hy with ⟨rfl,rfl⟩|rfl|⟨r,rfl,h1,h2,h3⟩
 ·left;intro get nid
  simp [builtinV,un22,okU22,okZ42,sliceCells,sz42,appendV,one,sea,pur,hr1,prsI]
 ·left;intro get nid
  simp [builtinV,un22,okU22,okZ42,sliceCells,sz42,appendV,one,sea,pur,hr2,e]
 ·right
  refine ⟨r,rfl,h1,h2,h3,fun nid=> ?_⟩
  simp [appB,builtinV,un22,okU22,okZ42,sliceCells,sz42,appendV,one,sea,pur,hr2,e]
theorem lit22 (a b:Int) (nid:Nat):litS Tryz.prog false 22 1 [(0,.agg [.int .i64 a,.int .i64 b])] nid=some { v:=.vs [.int .i64 a,.int .i64 b] 1 2 .tight }:=by
 unfold litS
 rw [show litCells Tryz.prog 22 1 [(0,.agg [.int .i64 a,.int .i64 b])]=some ([.int .i64 a,.int .i64 b],2) by kernel_rfl]
 rfl
attribute [local simp] ld3 ld126 ld42 ld27 ld22 ld5 ix27v ix22v JR JS ix43 sz3 sz42 sz27 sz5 conv3 sp2 JO zK zL JY JX lt0 lit22 zac minI maxI
attribute [-simp] zo zr zq zz zA zB zO max2 zZU zZV Zae Zaf zZG Zag zZW
structure Hold (vals:List Nat) (ml:List PrI):Prop where
 ok:∀p∈ml,wit p vals.length=true
 eq:∀p∈ml,vals[p.1.toNat]?=vals[p.2.toNat]?
structure Snd2 (m:Nat) (av mv:V) (M vals:List Nat) (lm:List PrI) (o:Own) (i:Nat) (f:Nat→V) (nb:Nat) (g:Nat→Blk):Prop where
 I:SndI m av mv M vals f nb g
 ml:∃ml,Hold vals ml∧ml.length≤i∧SlP g 2 nb (f 9) ml
 ne:∀r,tokOf (f 5)=some r→tokOf (f 9)≠some r
 f91:f 91=.vs (prsI lm) lm.length 2 o
 f92:f 92=nv lm.length
theorem SlR.grow {g g':Nat→Blk} {nb:Nat} {v:V} {l:List Nat} (h:SlR g 2 nb v l) (hg:∀r,r < nb→g' r=g r) {nb':Nat} (hn:nb≤nb'):SlR g' 2 nb' v l:=by
 rcases h with h|h|⟨r,h1,h2,h3,h4⟩
 ·exact .inl h
 ·exact .inr (.inl h)
 ·exact .inr (.inr ⟨r,h1,h2,by omega,by rw [hg r h3];exact h4⟩)
theorem SlP.grow {g g':Nat→Blk} {nb:Nat} {v:V} {l:List PrI} (h:SlP g 2 nb v l) (hg:∀r,r < nb→g' r=g r) {nb':Nat} (hn:nb≤nb'):SlP g' 2 nb' v l:=by
 rcases h with h|h|⟨r,h1,h2,h3,h4⟩
 ·exact .inl h
 ·exact .inr (.inl h)
 ·exact .inr (.inr ⟨r,h1,h2,by omega,by rw [hg r h3];exact h4⟩)
set_option maxHeartbeats 8000000 in
theorem Zgy {m:Nat} {av mv:V} {M vals:List Nat} {lm:List PrI} {o:Own} {i:Nat} {p:PrI} (hlm:lm.length≤16) (hvl:vals.length < 100) (hil:i < lm.length) (hg:lm[i]?=some p) {f:Nat→V} {nb:Nat} {g:Nat→Blk} {d:List Nat} (hI:Snd2 m av mv M vals lm o i f nb g) (f93:f 93=nv i):
 AeEnds 177 (fun e f' nb' g'=> e=.normal∧Snd2 m av mv M vals lm o (i+1) f' nb' g'∧f' 93=nv i) (C 6 ZaU (S 177 f [] (mkH nb g d))):=by
 have hnbo:=hI.I.hnb
 have h4:=zyp hg
 rw [zZU]
 refine AeEnds.block (Q:=fun e f' nb' g'=> e=.normal∧Snd2 m av mv M vals lm o (i+1) f' nb' g'∧f' 93=nv i) ?_ (fun f' nb' g' h=> by cases h.1) fun e f' nb' g' _ h=> h
 rw [Zae]
 refine AeEnds.seq (P:=fun f' nb' g'=> Snd2 m av mv M vals lm o i f' nb' g'∧nb'=nb+1∧g' nb=.row 0 [.int .i64 p.1,.int .i64 p.2]∧f' 11=.ptr nb 0∧f' 93=nv i) ?_ ?_
 ·obtain ⟨⟨f2,f3,hnb,g0,g1,hs⟩,⟨ml,hH,hml,hp⟩,hne,f91,f92⟩:=hI
  simp (disch:=first|assumption|decide|omega) [f91,f93,h4]
  refine AeEnds.mk ?_
  have n0:¬0=nb:=by omega
  have n1:¬1=nb:=by omega
  have gr:∀(b:Blk) r,r < nb→(if r=nb then b else g r)=g r:=fun b r hr=> by rw [if_neg (by omega)]
  refine ⟨rfl,⟨⟨?_,?_,?_,?_,?_,?_⟩,⟨ml,hH,hml,?_⟩,?_,?_,?_⟩,rfl,?_,?_,?_⟩
  ·simp [f2]
  ·simp [f3]
  ·omega
  ·simp (disch:=first|assumption|decide|omega) [g0]
  ·simp (disch:=first|assumption|decide|omega) [g1]
  ·refine SlR.grow (nb:=nb) (g:=g) (by simpa using hs) (fun r hr=> ?_) (by omega)
   have:¬r=nb:=by omega
   simp (disch:=first|assumption|decide|omega)
  ·refine SlP.grow (nb:=nb) (g:=g) (by simpa using hp) (fun r hr=> ?_) (by omega)
   have:¬r=nb:=by omega
   simp (disch:=first|assumption|decide|omega)
  ·simpa using hne
  ·simp [f91]
  ·simp [f92]
  ·simp
  ·simp
  ·simp [f93]
 rintro f nb2 g d ⟨hI,rfl,gt,f11,f93⟩
 rw [Zaf]
 refine AeEnds.seq (P:=fun f' nb' g'=> Snd2 m av mv M vals lm o i f' nb' g'∧nb'=nb+1∧g' nb=.row 0 [.int .i64 p.1,.int .i64 p.2]∧f' 11=.ptr nb 0∧f' 93=nv i∧(f' 125=.bool false∨f' 125=.bool true∧wit p vals.length=true∧vals[p.1.toNat]?=vals[p.2.toNat]?)) ?_ ?_
 ·obtain ⟨⟨f2,f3,hnb,g0,g1,hs⟩,⟨ml,hH,hml,hp⟩,hne,f91,f92⟩:=hI
  have h5:=len27 hs.slv
  suffices hh:∀Q:Ex→(Nat→V)→Nat→(Nat→Blk)→Prop,(∀f':Nat→V,f' 2=f 2→f' 3=f 3→f' 5=f 5→f' 9=f 9→f' 91=f 91→f' 92=f 92→f' 11=f 11→f' 93=f 93→(f' 125=.bool false∨f' 125=.bool true∧wit p vals.length=true∧vals[p.1.toNat]?=vals[p.2.toNat]?)→Q .normal f' (nb+1) g)→AeEnds 177 Q (C 6 zbU (S 177 f [] (mkH (nb+1) g d))) from
   hh _ fun f' q2 q3 q5 q9 q91 q92 q11 q93 q=> ⟨rfl,⟨⟨q2.trans f2,q3.trans f3,hnb,g0,g1,by rw [q5];exact hs⟩,⟨ml,hH,hml,by rw [q9];exact hp⟩,by rw [q5,q9];exact hne,q91.trans f91,q92.trans f92⟩,rfl,gt,q11.trans f11,q93.trans f93,q⟩
  intro Q keep
  by_cases h1:0≤min p.1 p.2
  ·have w1:intOp .geq .i64 (min p.1 p.2) .i64 0=some (.bool true):=by rw [zO];simp [h1]
   by_cases h2:max p.1 p.2 < (vals.length:Int)
   ·have w2:intOp .lss .i64 (max p.1 p.2) .i64 (vals.length:Int)=some (.bool true):=by rw [zo];simp [h2]
    have hw:wit p vals.length=true:=by simp only [wit,Bool.and_eq_true,decide_eq_true_eq];exact ⟨h1,h2⟩
    obtain ⟨b1,b2,b3,b4⟩:=zjp hw
    obtain ⟨x,y,rfl⟩:∃x y:Nat,p=((x:Int),(y:Int)):=⟨p.1.toNat,p.2.toNat,by rw [Int.toNat_of_nonneg b1,Int.toNat_of_nonneg b2]⟩
    have hx:x < vals.length:=by have b3:(x:Int) < vals.length:=b3;omega
    have hy:y < vals.length:=by have b4:(y:Int) < vals.length:=b4;omega
    have ex:vals[x]?=some vals[x]:=List.getElem?_eq_getElem hx
    have ey:vals[y]?=some vals[y]:=List.getElem?_eq_getElem hy
    generalize vals[x]=vx at ex
    generalize vals[y]=vy at ey
    have gx:=Zp ex
    have gy:=Zp ey
    obtain ⟨ov,hov⟩:=hs.get (fun hh=> by rw [hh] at hx;cases hx)
    rw [hov] at h5
    by_cases hxy:vx=vy
    ·have w3:intOp .eql .i64 (vx:Int) .i64 (vy:Int)=some (.bool true):=by rw [eqN];simp [hxy]
     simp (disch:=first|assumption|decide|omega) [zZG,hov,f11,gt,h5,w1,w2,w3,gx,gy]
     refine AeEnds.mk (keep _ ?_ ?_ ?_ ?_ ?_ ?_ ?_ ?_ (.inr ⟨?_,hw,?_⟩))
     ·simp
     ·simp
     ·simp [hov]
     ·simp
     ·simp
     ·simp
     ·simp
     ·simp
     ·simp
     ·show vals[x]?=vals[y]?
      rw [ex,ey,hxy]
    ·have w3:intOp .eql .i64 (vx:Int) .i64 (vy:Int)=some (.bool false):=by rw [eqN];simp [hxy]
     simp (disch:=first|assumption|decide|omega) [zZG,hov,f11,gt,h5,w1,w2,w3,gx,gy]
     refine AeEnds.mk (keep _ ?_ ?_ ?_ ?_ ?_ ?_ ?_ ?_ (.inl ?_))
     ·simp
     ·simp
     ·simp [hov]
     ·simp
     ·simp
     ·simp
     ·simp
     ·simp
     ·simp
   ·have w2:intOp .lss .i64 (max p.1 p.2) .i64 (vals.length:Int)=some (.bool false):=by rw [zo];simp [h2]
    simp (disch:=first|assumption|decide|omega) [zZG,f11,gt,h5,w1,w2]
    refine AeEnds.mk (keep _ ?_ ?_ ?_ ?_ ?_ ?_ ?_ ?_ (.inl ?_)) <;> simp
  ·have w1:intOp .geq .i64 (min p.1 p.2) .i64 0=some (.bool false):=by rw [zO];simp [h1]
   simp (disch:=first|assumption|decide|omega) [zZG,f11,gt,h5,w1]
   refine AeEnds.mk (keep _ ?_ ?_ ?_ ?_ ?_ ?_ ?_ ?_ (.inl ?_)) <;> simp
 rintro f nb2 g d ⟨⟨⟨f2,f3,hnb,g0,g1,hs⟩,⟨ml,hH,hml,hp⟩,hne,f91,f92⟩,rfl,gt,f11,f93,h⟩
 rw [Zag]
 rcases h with h|⟨h,hw,heq⟩
 ·simp (disch:=first|assumption|decide|omega) [h]
  refine AeEnds.mk ?_
  exact ⟨rfl,⟨⟨f2,f3,hnb,g0,g1,hs⟩,⟨ml,hH,by omega,hp⟩,hne,f91,f92⟩,f93⟩
 ·have hH':Hold vals (ml++[p]):=⟨fun q hq=> by
   rcases List.mem_append.1 hq with hq|hq
   ·exact hH.ok q hq
   ·rw [List.mem_singleton.1 hq];exact hw,fun q hq=> by
   rcases List.mem_append.1 hq with hq|hq
   ·exact hH.eq q hq
   ·rw [List.mem_singleton.1 hq];exact heq⟩
  have hml':(ml++[p]).length≤i+1:=by rw [List.length_append];simp only [List.length_cons,List.length_nil];omega
  rcases app22 (p:=p) hp (by omega) with ha|⟨r,hy,q1,q2,q3,ha⟩
  ·simp (disch:=first|assumption|decide|omega) [h,zZW,f11,gt,ha]
   refine AeEnds.mk ?_
   have n0:¬0=nb+1:=by omega
   have n1:¬1=nb+1:=by omega
   refine ⟨rfl,⟨⟨?_,?_,?_,?_,?_,?_⟩,⟨ml++[p],hH',hml',.inr (.inr ⟨nb+1,?_,by omega,by omega,?_⟩)⟩,?_,?_,?_⟩,?_⟩
   ·simp [f2]
   ·simp [f3]
   ·omega
   ·simp (disch:=first|assumption|decide|omega) [g0]
   ·simp (disch:=first|assumption|decide|omega) [g1]
   ·refine SlR.grow (nb:=nb+1) (g:=g) (by simpa using hs) (fun r hr=> ?_) (by omega)
    have:¬r=nb+1:=by omega
    simp (disch:=first|assumption|decide|omega)
   ·simp
   ·simp
   ·intro r hr
    have:=hs.lt (by simpa using hr)
    simp [tokOf]
    omega
   ·simp [f91]
   ·simp [f92]
   ·simp [f93]
  ·have nr0:¬0=r:=by omega
   have nr1:¬1=r:=by omega
   simp (disch:=first|assumption|decide|omega) [h,zZW,f11,gt,hy,ha,q3]
   refine AeEnds.mk ?_
   refine ⟨rfl,⟨⟨?_,?_,hnb,?_,?_,?_⟩,⟨ml++[p],hH',hml',.inr (.inr ⟨r,?_,q1,q2,?_⟩)⟩,?_,?_,?_⟩,?_⟩
   ·simp [f2]
   ·simp [f3]
   ·simp (disch:=first|assumption|decide|omega) [g0]
   ·simp (disch:=first|assumption|decide|omega) [g1]
   ·rcases hs with q|q|⟨r',q4,q5,q6,q7⟩
    ·exact .inl (by simpa using q)
    ·exact .inr (.inl (by simpa using q))
    ·have:¬r'=r:=fun hh=> by
      subst hh
      refine hne r' (by rw [q4];rfl) (by rw [hy];rfl)
     exact .inr (.inr ⟨r',by simpa using q4,q5,q6,by simp (disch:=first|assumption|decide|omega) [q7]⟩)
   ·simp
   ·simp
   ·intro r' hr'
    have:=hne r' (by simpa using hr')
    rw [hy] at this
    simpa [tokOf] using this
   ·simp [f91]
   ·simp [f92]
   ·simp [f93]
end Go.Proofs.YtdlaladdeelegaaGreat.Cg
end
noncomputable section
namespace Go.Proofs.YtdlaladdeelegaaGreat.Cg
open Go Go.Ae
attribute [local simp] setF ZF JC JB ZR ZS Zo ZE Jx Jw Jq Zw Zk S_h ZH Zz ZM ZK ZL zt ZO ZN Z7 Zj Jp Z8 JD JE Zt Z0 valS ZP ZQ zq zB zz zA zo Z5 zr zO Jy Jz JG JH Z1 Z2 Z3 Z4 ZI Zy JF ZT ZW ZB ZA ZY ZX ZZ xStore xLoad V.ones Je Jd Jh Jg Jf Ji Jn Jo Jm ZV Jk Jl Jj zK ZU zL JA Jt Js Ju Jr Jv Ja Jb Jc Z9 max2 cond_true cond_false List.nil_append List.cons_append Za9 k6_c Zbl Zbh Zbi Zbj Zbk zZ3 zZJ ZdZ ZdL ZdM ZdR ZdS ZdT ZdU ZdV ZdW ZdX ZdY ZdN ZdO ZdP ZdQ Zeg Zet ZfJ ZfG ZfH ZfI ZfW Zfn zZ7 ZbY ZbW ZbX zZY zZZ Zb8 Zb4 Zb5 Zb6 Zb7 zZ1 Zca Zcd Zcb Zcc Zce Zcf Zch Zci Zcg Zck Zcp Zct Zcq Zcr Zcs ZcF Zcu Zcv Zcx Zcy Zcz ZcA ZcB ZcC ZcD ZcE Zcw Zco Zcl Zcm Zcn zZ0 zZ4 ZcL ZcG ZcH ZcI ZcJ ZcK zZ6 ZcO ZcR ZcP ZcQ ZcS ZcT ZcV ZcW ZcU zZE zZM Zc5 Zc0 Zc1 Zc2 Zc3 Zc4 zZN zZF ZdJ Zds Zdt ZdB ZdC ZdD ZdE ZdF ZdG ZdH ZdI Zdu Zdv Zdw Zdx Zdy Zdz ZdA ZdK Zd0 Zd5 Zd2 Zd3 Zd4 Zd6 Zd1 zZS Zc6 Zc7 Zdi Zdl Zdm Zdn Zdo Zdp Zdq Zdr Zc8 Zc9 Zda Zdb Zdc Zdd Zde Zdf Zdg Zdh Zdj Zdk zZR ZcX ZcY ZcZ zZ5 zZ8 Zd7 Zd8 zZ9 Zaa Zee Zd9 Zea Zeb Zec Zed Zad Zeh Zek Zei Zej Zel Zem Zeo Zep Zen zZU Zae Zez Zeu Zev Zew Zex Zey Zaf zZG ZeA ZeB ZeM ZeX ZeY ZeZ Ze0 Ze1 Ze2 Ze3 ZeC ZeD ZeE ZeF ZeG ZeH ZeI ZeJ ZeK ZeL ZeN ZeO ZeP ZeQ ZeR ZeS ZeT ZeU ZeV ZeW Zag zZW Ze4 Ze5 Ze6 Ze7 Ze8 Ze9 Zfa zZV Zeq Zer Zes Zac Zah Zfb Zfc Zff Zfg Zfh Zfi Zfj Zfk Zfl Zfm Zfd Zfe Zai Zaj Zfy Zfo Zfp Zfq Zfr Zfs Zft Zfu Zfv Zfw Zfx Zfz ZfA Zak Zal ZfF ZfB ZfC ZfD ZfE zZX ZfL ZfO ZfM ZfN ZfP ZfQ ZfS ZfT ZfR ZfV Zbq Zbx Zbr Zbs Zbt Zbu Zbv Zbw Zby ZbT Zbz ZbA ZbL ZbM ZbN ZbO ZbP ZbQ ZbR ZbS ZbB ZbC ZbD ZbE ZbF ZbG ZbH ZbI ZbJ ZbK ZbU ZbV Zbp Zbm Zbn Zbo Zam Zb2 ZbZ Zb0 Zb1 Zb3
attribute [local simp] ld3 ld126 ld42 ld27 ld22 ld5 ix27v ix22v JR JS ix43 sz3 sz42 sz27 sz5 sp2 JO zK zL JY JX lt0
attribute [-simp] zo zr zq zz zA zB zO max2 zZ1 zZ6 Zad zZX zZU zZV zZ3 zZJ zZ7 zZY zZZ zZ0 zZ4 zZ5 zZ8 zZ9 Zaa Zac Zah Zai Zaj Zak Zal Zam
set_option maxHeartbeats 4000000 in
theorem Zgr {m:Nat} {av mv:V} {M vals:List Nat} {lm:List PrI} {o:Own} (hlm:lm.length≤16) (hvl:vals.length < 100):
 ∀(k i:Nat) (f:Nat→V) (nb:Nat) (g:Nat→Blk) (d:List Nat),lm.length - i=k→i≤lm.length→Snd2 m av mv M vals lm o i f nb g→f 93=nv i→
 AeEnds 177 (fun e f' nb' g'=> e=.exit 4∧Snd2 m av mv M vals lm o lm.length f' nb' g') (C 6 zZT (S 177 f [] (mkH nb g d))):=by
 intro k
 induction k with
 |zero=>
  intro i f nb g d hk hi hI f93
  obtain ⟨⟨f2,f3,hnb,g0,g1,hs⟩,⟨ml,hH,hml,hp⟩,hne,f91,f92⟩:=hI
  obtain rfl:i=lm.length:=by omega
  have e2:intOp .lss .i64 (lm.length:Int) .i64 (lm.length:Int)=some (.bool false):=by rw [ltN];simp
  rw [Zf7]
  simp (disch:=first|assumption|decide|omega) [f92,f93,e2]
  refine AeEnds.mk ?_
  refine ⟨rfl,⟨?_,?_,hnb,g0,g1,?_⟩,⟨ml,hH,hml,?_⟩,?_,?_,?_⟩
  ·simp [f2]
  ·simp [f3]
  ·simpa using hs
  ·simpa using hp
  ·simpa using hne
  ·simp [f91]
  ·simp [f92]
 |succ k ih=>
  intro i f nb g d hk hi hI f93
  have hil:i < lm.length:=by omega
  have hg:lm[i]?=some lm[i]:=List.getElem?_eq_getElem hil
  generalize lm[i]=p at hg
  have f92:=hI.f92
  have e1:=add1 (a:=i) (by omega)
  have e2:intOp .lss .i64 (i:Int) .i64 (lm.length:Int)=some (.bool true):=by rw [ltN];simp [hil]
  rw [Zf7]
  simp (disch:=first|assumption|decide|omega) [f92,f93,e2]
  refine AeEnds.seq (P:=fun f' nb' g'=> Snd2 m av mv M vals lm o (i+1) f' nb' g'∧f' 93=nv (i+1)) ?_ ?_
  ·refine AeEnds.seq (P:=fun f' nb' g'=> Snd2 m av mv M vals lm o (i+1) f' nb' g'∧f' 93=nv i) (Zgy hlm hvl hil hg ⟨⟨?_,?_,hI.I.hnb,hI.I.g0,hI.I.g1,?_⟩,?_,?_,?_,?_⟩ ?_) ?_
   ·simp [hI.I.f2]
   ·simp [hI.I.f3]
   ·simpa using hI.I.sl
   ·simpa using hI.ml
   ·simpa using hI.ne
   ·simp [hI.f91]
   ·simp [hI.f92]
   ·simp [f93]
   ·rintro f nb g d ⟨⟨⟨f2,f3,hnb,g0,g1,hs⟩,⟨ml,hH,hml,hp⟩,hne,f91,f92⟩,f93⟩
    rw [zZV]
    simp (disch:=first|assumption|decide|omega) [f93,e1]
    refine AeEnds.mk ?_
    refine ⟨rfl,⟨⟨?_,?_,hnb,g0,g1,?_⟩,⟨ml,hH,hml,?_⟩,?_,?_,?_⟩,?_⟩
    ·simp [f2]
    ·simp [f3]
    ·simpa using hs
    ·simpa using hp
    ·simpa using hne
    ·simp [f91]
    ·simp [f92]
    ·simp
  ·rintro f nb g d ⟨hI',f93⟩
   exact ih (i+1) f nb g d (by omega) hil hI' f93
set_option maxHeartbeats 2000000 in
theorem Zgs {res vals:List Nat} {ov:Own} (hL:res.length < 1000) (hrv:∀i r:Nat,res[i]?=some r→∃z:Nat,vals[i]?=some z∧vals[r]?=some z):
 ∀(k i:Nat) (f:Nat→V) (h:H),res.length - i=k→i≤res.length→f 5=.vs (ints vals) vals.length 1 ov→f 149=LV res→f 150=nv res.length→f 151=nv i→
 AeStay 177 h (fun e _=> e=.exit 6) (C 6 Zan (S 177 f [] h)):=by
 intro k
 induction k with
 |zero=>
  intro i f h hk hi f5 f149 f150 f151
  obtain rfl:i=res.length:=by omega
  have e2:intOp .lss .i64 (res.length:Int) .i64 (res.length:Int)=some (.bool false):=by rw [ltN];simp
  rw [Zgc]
  simp (disch:=first|assumption|decide|omega) [f150,f151,e2]
  exact AeStay.mk rfl
 |succ k ih=>
  intro i f h hk hi f5 f149 f150 f151
  have hil:i < res.length:=by omega
  have hg:res[i]?=some res[i]:=List.getElem?_eq_getElem hil
  generalize res[i]=r at hg
  obtain ⟨z,z1,z2⟩:=hrv i r hg
  have l1:=(List.getElem?_eq_some_iff.1 z1).1
  have l2:=(List.getElem?_eq_some_iff.1 z2).1
  have h1:=Zp hg
  have h2:=Zp z1
  have h3:=Zp z2
  have hlen:∀get nid,builtinV Tryz.prog false get nid .len [27] [.vs (ints vals) vals.length 1 ov]=some { v:=nv vals.length }:=len27 (.inr ⟨_,rfl⟩)
  have e1:=add1 (a:=i) (by omega)
  have e2:intOp .lss .i64 (i:Int) .i64 (res.length:Int)=some (.bool true):=by rw [ltN];simp [hil]
  have e3:intOp .geq .i64 (r:Int) .i64 (vals.length:Int)=some (.bool false):=by rw [geN];simp;omega
  have e4:intOp .neq .i64 (z:Int) .i64 (z:Int)=some (.bool false):=by rw [neN];simp
  rw [Zgc]
  simp (disch:=first|assumption|decide|omega) [f5,f149,f150,f151,e1,e2,e3,e4,h1,h2,h3,hlen]
  refine (ih (i+1) _ _ (by omega) hil ?_ ?_ ?_ ?_).weak fun e f' h=> h
  ·simp [f5]
  ·simp [f149]
  ·simp [f150]
  ·simp
theorem Zgf {t:Int}:∀(l:List PrI) (i:Nat),(∀(j:Nat) (p:PrI),l[j]?=some p→wit p (t+((i+j:Nat):Int))=true)→appsOk t l i=true
 |[],_,_=> rfl
 |p::l,i,h=> by
  unfold appsOk
  rw [Bool.and_eq_true]
  refine ⟨by have:=h 0 p rfl;simpa using this,Zgf l (i+1) fun j q hj=> ?_⟩
  have:=h (j+1) q hj
  rw [show i+(j+1)=i+1+j by omega] at this
  exact this
theorem SVals.right {m:Nat} {M vals:List Nat} {la ml:List PrI} (h:SVals m M la la.length vals) (hH:Hold vals ml):chkR m la ml=0:=by
 have h1:appsOk (m:Int) la 0=true:=Zgf la 0 fun j p hj=> by
  rw [Nat.zero_add];exact h.ok j p hj (List.getElem?_eq_some_iff.1 hj).1
 have h2:mrgOk ((m:Int)+la.length) ml=true:=by
  unfold mrgOk
  rw [List.all_eq_true]
  intro p hp
  have:=hH.ok p hp
  rw [h.len] at this
  simpa using this
 unfold chkR
 rw [if_neg (by omega),if_pos ⟨h1,h2⟩]
theorem SVals.cong {m:Nat} {M vals:List Nat} {la:List PrI} (h:SVals m M la la.length vals):Cong m (toK la) (fun a b=> vals[a]?=vals[b]?):=by
 refine ⟨fun _=> rfl,fun h=> h.symm,fun h1 h2=> h1.trans h2,fun {j k p q} hp hq h1 h2=> ?_⟩
 have get:∀{j:Nat} {p:Key},(toK la)[j]?=some p→∃x y a:Nat,vals[p.1]?=some x∧vals[p.2]?=some y∧M[16+(4 * x+y)]?=some a∧vals[m+j]?=some (a % 4):=fun {j p} hj=> by
  unfold toK at hj
  rw [List.getElem?_map] at hj
  cases hl:la[j]? with
  |none=> rw [hl] at hj;cases hj
  |some p'=>
   rw [hl] at hj;cases hj
   exact h.val j p' hl (List.getElem?_eq_some_iff.1 hl).1
 obtain ⟨x,y,a,a1,a2,a3,a4⟩:=get hp
 obtain ⟨x',y',a',b1,b2,b3,b4⟩:=get hq
 rw [a1,b1] at h1;cases h1
 rw [a2,b2] at h2;cases h2
 rw [a3] at b3;cases b3
 rw [a4,b4]
theorem Zgw {m:Nat} {M vals:List Nat} {la ml:List PrI} {res:List Nat} (h:SVals m M la la.length vals) (hH:Hold vals ml) (hr:LeastC m (toK la) (toK ml) (fun _=> true) res):res.length=vals.length∧∀i r:Nat,res[i]?=some r→∃z:Nat,vals[i]?=some z∧vals[r]?=some z:=by
 have hl:=hr.len
 rw [Qe] at hl
 have hl':=h.len
 refine ⟨by omega,fun i r hi=> ?_⟩
 obtain ⟨_,r2⟩:=hr.rep i r hi
 have hil:=(List.getElem?_eq_some_iff.1 hi).1
 have e:vals[i]?=some vals[i]:=List.getElem?_eq_getElem (by omega)
 have:=hr.lst _ h.cong (fun j p hj _=> by
  unfold toK at hj
  rw [List.getElem?_map] at hj
  cases hp:ml[j]? with
  |none=> rw [hp] at hj;cases hj
  |some p'=>
   rw [hp] at hj;cases hj
   exact hH.eq p' (List.mem_of_getElem? hp)) i r r hi r2
 exact ⟨_,e,by rw [←this];exact e⟩
set_option maxHeartbeats 4000000 in
theorem Zgn {m:Nat} {av mv:V} {M vals:List Nat} {la ml:List PrI} (hm:m≤16) (hA:InS av la) (hla:la.length≤16) (hml:ml.length≤16) (hV:SVals m M la la.length vals) (hH:Hold vals ml) {f:Nat→V} {nb:Nat} {g:Nat→Blk} {d:List Nat} (hI:SndI m av mv M vals f nb g) (hp:SlP g 2 nb (f 9) ml):
 AeEnds 177 (fun e f' _ _=> e=.ret∧f' 4=.bool true) (C 6 Zab (S 177 f [] (mkH nb g d))):=by
 obtain ⟨v,hv,hc⟩:=zPY (t:=(m:Int)) (by omega) hA hp.ins hla hml
 have hchk:=hV.right hH
 have hl:=hV.len
 cases hv with
 |err h=> rw [h] at hchk;cases hchk
 |@ok m' res ht _ hr=>
  obtain rfl:m'=m:=by omega
  obtain ⟨hrl,hrv⟩:=Zgw hV hH hr
  obtain ⟨f2,f3,hnb,g0,g1,hs⟩:=hI
  have h27:=len27 hs.slv
  have hl27:∀get nid,builtinV Tryz.prog false get nid .len [27] [LV res]=some { v:=nv res.length }:=len27 (.inr ⟨_,rfl⟩)
  have hneq:binV Tryz.prog .neq 28 false true (.int .i64 0) (.int .i64 0)=some (.bool false):=rfl
  have e1:intOp .neq .i64 (res.length:Int) .i64 (vals.length:Int)=some (.bool false):=by rw [neN];simp [hrl]
  rw [Zac]
  refine AeEnds.seq (P:=fun f' nb' g'=> f' 5=f 5∧f' 12=LV res∧f' 13=.int .i64 0) ?_ ?_
  ·rw [Zah]
   simp (disch:=first|assumption|decide|omega) [f2,g0,hc]
   refine AeEnds.mk ?_
   exact ⟨rfl,by simp,by simp,by simp⟩
  rintro f1 nb1 g1 d1 ⟨q5,q12,q13⟩
  rw [Zai]
  refine AeEnds.seq (P:=fun f' nb' g'=> f' 5=f 5∧f' 12=LV res) ?_ ?_
  ·rw [Zaj]
   simp (disch:=first|assumption|decide|omega) [q12,q13,q5,hneq,hl27,h27,e1]
   refine AeEnds.mk ?_
   exact ⟨rfl,by simp [q5],by simp [q12]⟩
  rintro f2' nb2 g2 d2 ⟨q5,q12⟩
  rw [Zak]
  refine AeEnds.seq (P:=fun _ _ _=> True) ?_ ?_
  ·rw [Zal]
   by_cases hz:res=[]
   ·subst hz
    have hz27:∀get nid,builtinV Tryz.prog false get nid .len [27] [LV []]=some { v:=nv 0 }:=len27 (l:=[]) (.inr ⟨.tight,rfl⟩)
    have e2:intOp .lss .i64 0 .i64 0=some (.bool false):=rfl
    simp (disch:=first|assumption|decide|omega) [q12,hz27,zZX,Zgc,e2]
    exact AeEnds.mk rfl
   ·obtain ⟨ov,hov⟩:=hs.get (fun hh=> hz (List.length_eq_zero_iff.1 (by rw [hrl,hh];rfl)))
    simp (disch:=first|assumption|decide|omega) [q12,hl27]
    rw [zZX]
    refine AeEnds.block (Q:=fun e _ _ _=> e=.exit 6) ((Zgs (res:=res) (vals:=vals) (ov:=ov) (by omega) hrv res.length 0 _ _ rfl (Nat.zero_le _) ?_ ?_ ?_ ?_).ends fun e f' h=> h) (fun _ _ _ _=> rfl) fun e _ _ _ hne h=> absurd h hne
    ·simp [q5,hov]
    ·simp
    ·simp
    ·simp
  rintro f3' nb3 g3 d3 _
  rw [Zam]
  simp (disch:=first|assumption|decide|omega) [zkF]
  refine AeEnds.mk ?_
  exact ⟨rfl,by simp⟩
theorem Zgt {m:Nat} {av mv:V} {M vals:List Nat} {f:Nat→V} {nb:Nat} {g:Nat→Blk} {d:List Nat} (hI:SndI m av mv M vals f nb g) (f47:f 47=nv 0) (f48:f 48=nv 0):
 AeEnds 177 (fun e f' nb' g'=> e=.exit 2∧SndI m av mv M vals f' nb' g') (C 6 zZK (S 177 f [] (mkH nb g d))):=by
 obtain ⟨f2,f3,hnb,g0,g1,hs⟩:=hI
 have e2:intOp .lss .i64 0 .i64 0=some (.bool false):=rfl
 rw [ZcN]
 simp (disch:=first|assumption|decide|omega) [f47,f48,e2]
 refine AeEnds.mk ?_
 exact ⟨rfl,by simp [f2],by simp [f3],hnb,g0,g1,by simpa using hs⟩
theorem Zgu {m:Nat} {av mv:V} {M vals:List Nat} {f:Nat→V} {nb:Nat} {g:Nat→Blk} {d:List Nat} (hI:SndI m av mv M vals f nb g) (f9:f 9=.nils) (f92:f 92=nv 0) (f93:f 93=nv 0):
 AeEnds 177 (fun e f' nb' g'=> e=.exit 4∧SndI m av mv M vals f' nb' g'∧f' 9=.nils) (C 6 zZT (S 177 f [] (mkH nb g d))):=by
 obtain ⟨f2,f3,hnb,g0,g1,hs⟩:=hI
 have e2:intOp .lss .i64 0 .i64 0=some (.bool false):=rfl
 rw [Zf7]
 simp (disch:=first|assumption|decide|omega) [f92,f93,e2]
 refine AeEnds.mk ?_
 exact ⟨rfl,⟨by simp [f2],by simp [f3],hnb,g0,g1,by simpa using hs⟩,by simp [f9]⟩
set_option maxHeartbeats 4000000 in
theorem Zgo {m:Nat} {av mv:V} {M:List Nat} {la lm:List PrI} (hm:m≤16) (hA:InS av la) (hMv:InS mv lm) (hla:la.length≤16) (hlm:lm.length≤16) (hM:M.length=32) (hM8:∀a∈M,a < 256) {f:Nat→V} {g:Nat→Blk} {d:List Nat} (f2:f 2=.ptr 0 0) (f3:f 3=.ptr 1 0) (g0:g 0=.row 0 [nv m,av,mv]) (g1:g 1=.row 0 (u8s M)):
 AeEnds 177 (fun e f' _ _=> e=.ret∧f' 4=.bool true) (C 6 k6_3 (S 177 f [] (mkH 2 g d))):=by
 have hlenA:=len22 hA
 have hlenM:=len22 hMv
 rw [zZ7]
 refine AeEnds.seq (P:=fun f' nb' g'=> SndI m av mv M [] f' nb' g') ?_ ?_
 ·simp (disch:=first|assumption|decide|omega)
  refine AeEnds.mk ?_
  exact ⟨rfl,by simp [f2],by simp [f3],Nat.le_refl _,g0,g1,.inl ⟨by simp,rfl⟩⟩
 intro f nb g d hI
 rw [zZY]
 refine AeEnds.seq (P:=fun f' nb' g'=> ∃vals:List Nat,vals.length=m∧(∀x∈vals,x < 4)∧SndI m av mv M vals f' nb' g') ?_ ?_
 ·obtain ⟨q2,q3,hnb,q0,q1,hs⟩:=hI
  rw [zZZ]
  simp (disch:=first|assumption|decide|omega) [q2,q0]
  rw [zZ1]
  refine AeEnds.block (Q:=fun e f' nb' g'=> e=.exit 0∧∃vals:List Nat,vals.length=m∧(∀x∈vals,x < 4)∧SndI m av mv M vals f' nb' g') (Zgp hm hM hM8 m 0 [] _ _ _ _ rfl (Nat.zero_le _) rfl (fun x hx=> by cases hx) ⟨?_,?_,hnb,q0,q1,?_⟩ ?_ ?_) ?_ ?_
  ·simp [q2]
  ·simp [q3]
  ·simpa using hs
  ·simp
  ·simp
  ·rintro f' nb' g' ⟨_,h⟩;exact ⟨rfl,h⟩
  ·rintro e f' nb' g' hne ⟨rfl,_⟩;exact absurd rfl hne
 rintro f nb g d ⟨vals,hv1,hv2,hI⟩
 have hV0:SVals m M la 0 vals:=⟨hv1,hv2,fun j p _ h=> by omega,fun j p _ h=> by omega⟩
 rw [zZ0]
 refine AeEnds.then (Q:=fun e f' nb' g'=> (e=.ret∧f' 4=.bool true)∨(e=.normal∧∃vals:List Nat,SVals m M la la.length vals∧SndI m av mv M vals f' nb' g')) ?_ ?_ ?_
 ·obtain ⟨q2,q3,hnb,q0,q1,hs⟩:=hI
  rw [zZ4]
  simp (disch:=first|assumption|decide|omega) [q2,q0,hlenA]
  rw [zZ6]
  refine AeEnds.block (Q:=fun e f' nb' g'=> (e=.ret∧f' 4=.bool true)∨(e=.exit 2∧∃vals:List Nat,SVals m M la la.length vals∧SndI m av mv M vals f' nb' g')) ?_ ?_ ?_
  ·by_cases hz:la=[]
   ·subst hz
    refine (Zgt (vals:=vals) (m:=m) (av:=av) (mv:=mv) (M:=M) ⟨?_,?_,hnb,q0,q1,?_⟩ ?_ ?_).weak fun e f' nb' g' h=> .inr ⟨h.1,vals,hV0,h.2⟩
    ·simp [q2]
    ·simp [q3]
    ·simpa using hs
    ·simp
    ·simp
   ·obtain ⟨o,ho⟩:=hA.vs hz
    refine Zgq (o:=o) hm hla hM hM8 la.length 0 vals _ _ _ _ rfl (Nat.zero_le _) hV0 ⟨?_,?_,hnb,q0,q1,?_⟩ ?_ ?_ ?_
    ·simp [q2]
    ·simp [q3]
    ·simpa using hs
    ·simp [ho]
    ·simp
    ·simp
  ·rintro f' nb' g' (⟨h,_⟩|⟨_,h⟩)
   ·cases h
   ·exact .inr ⟨rfl,h⟩
  ·rintro e f' nb' g' hne (h|⟨rfl,_⟩)
   ·exact .inl h
   ·exact absurd rfl hne
 ·rintro f nb g d (⟨h,_⟩|⟨_,vals,hV,hI⟩)
  ·cases h
  have hvl:=hV.len
  rw [zZ5]
  refine AeEnds.seq (P:=fun f' nb' g'=> SndI m av mv M vals f' nb' g'∧f' 9=.nils) ?_ ?_
  ·obtain ⟨q2,q3,hnb,q0,q1,hs⟩:=hI
   rw [zZ8]
   simp (disch:=first|assumption|decide|omega)
   refine AeEnds.mk ?_
   exact ⟨rfl,⟨by simp [q2],by simp [q3],hnb,q0,q1,by simpa using hs⟩,by simp⟩
  rintro f nb g d ⟨hI,f9⟩
  rw [zZ9]
  refine AeEnds.seq (P:=fun f' nb' g'=> ∃ml,Hold vals ml∧ml.length≤16∧SndI m av mv M vals f' nb' g'∧SlP g' 2 nb' (f' 9) ml) ?_ ?_
  ·obtain ⟨q2,q3,hnb,q0,q1,hs⟩:=hI
   have hH0:Hold vals []:=⟨fun p hp=> (by cases hp),fun p hp=> (by cases hp)⟩
   rw [Zaa]
   simp (disch:=first|assumption|decide|omega) [q2,q0,hlenM]
   rw [Zad]
   refine AeEnds.block (Q:=fun e f' nb' g'=> e=.exit 4∧∃ml,Hold vals ml∧ml.length≤16∧SndI m av mv M vals f' nb' g'∧SlP g' 2 nb' (f' 9) ml) ?_ ?_ ?_
   ·by_cases hz:lm=[]
    ·subst hz
     refine (Zgu (vals:=vals) (m:=m) (av:=av) (mv:=mv) (M:=M) ⟨?_,?_,hnb,q0,q1,?_⟩ ?_ ?_ ?_).weak fun e f' nb' g' h=> ⟨h.1,[],hH0,Nat.zero_le _,h.2.1,.inl ⟨h.2.2,rfl⟩⟩
     ·simp [q2]
     ·simp [q3]
     ·simpa using hs
     ·simp [f9]
     ·simp
     ·simp
    ·obtain ⟨o,ho⟩:=hMv.vs hz
     refine (Zgr (o:=o) hlm (by omega) lm.length 0 _ _ _ _ rfl (Nat.zero_le _) ⟨⟨?_,?_,hnb,q0,q1,?_⟩,⟨[],hH0,Nat.le_refl _,.inl ⟨?_,rfl⟩⟩,?_,?_,?_⟩ ?_).weak fun e f' nb' g' h=> ?_
     ·simp [q2]
     ·simp [q3]
     ·simpa using hs
     ·simp [f9]
     ·intro r _
      simp [f9,tokOf]
     ·simp [ho]
     ·simp
     ·simp
     ·obtain ⟨h1,h2⟩:=h
      obtain ⟨ml,m1,m2,m3⟩:=h2.ml
      exact ⟨h1,ml,m1,by omega,h2.I,m3⟩
   ·rintro f' nb' g' ⟨_,h⟩;exact ⟨rfl,h⟩
   ·rintro e f' nb' g' hne ⟨rfl,_⟩;exact absurd rfl hne
  rintro f nb g d ⟨ml,hH,hml,hI,hp⟩
  exact Zgn hm hA hla hml hV hH hI hp
 ·rintro e f' nb' g' hne (h|⟨rfl,_⟩)
  ·exact h
  ·exact absurd rfl hne
theorem sound {t:Int} {la lm:List PrI} {av mv:V} {M:List Nat} (hA:InS av la) (hMv:InS mv lm) (hM:M.length=32) (hM8:∀a∈M,a < 256):AeRets (fun v _ _=> v=.bool true) ((EV Tryz.prog hs ks).call 6 [.agg [.int .i64 t,av,mv],.agg (u8s M)] (mkH 0 (fun _=> .gone) [])):=by
 have hfew:=zQB (t:=t) hA hMv
 rw [Zgk _ (by simp),k6_c]
 refine AeEnds.rets (n:=177) (Q:=fun e f' _ _=> e=.ret∧f' 4=.bool true) ?_ ?_
 ·refine AeEnds.seq (P:=fun f' nb' g'=> f' 2=.ptr 0 0∧f' 3=.ptr 1 0∧nb'=2∧g' 0=.row 0 [.int .i64 t,av,mv]∧g' 1=.row 0 (u8s M)) ?_ ?_
  ·simp (disch:=first|assumption|decide|omega)
   refine AeEnds.mk ?_
   exact ⟨rfl,by simp,by simp,rfl,by simp,by simp⟩
  rintro f nb g d ⟨f2,f3,rfl,g0,g1⟩
  rw [zZ3]
  cases hb:fewB t la lm with
  |false=>
   rw [hb] at hfew
   simp (disch:=first|assumption|decide|omega) [zZJ,f2,g0,hfew,zkF]
   refine AeEnds.mk ?_
   exact ⟨rfl,by simp⟩
  |true=>
   rw [hb] at hfew
   have hbs:t≤16∧la.length≤16∧lm.length≤16:=by
    unfold fewB at hb
    simp only [Bool.and_eq_true,decide_eq_true_eq] at hb
    omega
   obtain ⟨ht,hLa,hLm⟩:=hbs
   by_cases h0:t < 0
   ·have e1:intOp .lss .i64 t .i64 0=some (.bool true):=by rw [zo];simp [h0]
    simp (disch:=first|assumption|decide|omega) [zZJ,f2,g0,hfew,e1,zkF]
    refine AeEnds.mk ?_
    exact ⟨rfl,by simp⟩
   ·obtain ⟨m,rfl⟩:∃m:Nat,t=m:=⟨t.toNat,by omega⟩
    refine AeEnds.seq (P:=fun f' nb' g'=> f' 2=.ptr 0 0∧f' 3=.ptr 1 0∧nb'=2∧g' 0=.row 0 [nv m,av,mv]∧g' 1=.row 0 (u8s M)) ?_ ?_
    ·simp (disch:=first|assumption|decide|omega) [zZJ,f2,g0,hfew]
     refine AeEnds.mk ?_
     exact ⟨rfl,by simp [f2],by simp [f3],rfl,g0,g1⟩
    rintro f nb g d ⟨f2,f3,rfl,g0,g1⟩
    exact Zgo (by omega) hA hMv hLa hLm hM hM8 f2 f3 g0 g1
 ·rintro e f' nb' g' d' ⟨rfl,h2⟩
  rw [Za9]
  simp (disch:=first|assumption|decide|omega) [h2]
  refine AeRets.mk ?_
  rfl
end Go.Proofs.YtdlaladdeelegaaGreat.Cg
end
