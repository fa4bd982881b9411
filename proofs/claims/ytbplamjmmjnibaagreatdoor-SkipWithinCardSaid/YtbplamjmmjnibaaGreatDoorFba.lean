/- Contracts of functions of the program, as shallow functions, and their proofs. -/
import Derived.Test.YtbplamjmmjnibaaGreatDoorFa
import Derived.Test.YtbplamjmmjnibaaGreatDoorFaP
set_option linter.all false
set_option maxRecDepth 100000
namespace Go.Dn.F
open Go.Proofs
variable {N:Nat} {g0:G} {w0:World} {R:Exit→Act→World→Prop}
structure ZbY where
  Height:Int
  Version:Int
noncomputable def ZbY.ls (x:ZbY):List L:=[L.int .i64 x.Height,L.int .i64 x.Version]
noncomputable def ZdH {α:Type} (l:List L) (k:ZbY→Option α):Option α:=match l with
  | [L.int .i64 x0,L.int .i64 x1]=>k ⟨x0,x1⟩
  | _=>none
theorem ZdK {α:Type} {o:Option (List L)} {k:ZbY→Option α} {r:α} (h:getE o ZdH k=some r) : ∃x:ZbY,o=some x.ls∧k x=some r:=by
  obtain ⟨l,e,k1⟩:=Zad h;subst e;unfold ZdH at k1;split at k1
  · exact ⟨_,rfl,k1⟩
  · cases k1
@[simp] theorem ZdV {α:Type} (x:ZbY) (k:ZbY→Option α):ZdH x.ls k=k x:=rfl
theorem ZbY.bv {st:LL} (x:ZbY):BVs st x.ls x.ls:=(bP (bP bN))
structure ZbH where
  Height:Int
  Id:List Int
noncomputable def ZbH.ls (x:ZbH):List L:=[L.int .i64 x.Height,L.arr .u8 32 x.Id]
noncomputable def Zdz {α:Type} (l:List L) (k:ZbH→Option α):Option α:=match l with
  | [L.int .i64 x0,L.arr .u8 32 x1]=>k ⟨x0,x1⟩
  | _=>none
theorem ZdE {α:Type} {o:Option (List L)} {k:ZbH→Option α} {r:α} (h:getE o Zdz k=some r) : ∃x:ZbH,o=some x.ls∧k x=some r:=by
  obtain ⟨l,e,k1⟩:=Zad h;subst e;unfold Zdz at k1;split at k1
  · exact ⟨_,rfl,k1⟩
  · cases k1
@[simp] theorem ZdL {α:Type} (x:ZbH) (k:ZbH→Option α):Zdz x.ls k=k x:=rfl
theorem ZbH.bv {st:LL} (x:ZbH):BVs st x.ls x.ls:=(bP (bP bN))
structure Zas where
  rules:Zaf
  list:LL
  spots:LL
  places:LM
  room:Int
noncomputable def Zas.lo (x:Zas):List L:=[L.int .i64 x.rules.Limit,L.int .i64 x.rules.Interval,L.int .i64 x.rules.Spacing,L.int .i64 x.rules.Future,L.bool x.rules.Easy,L.sl 2 x.rules.Gates,L.sl 33 x.rules.Checks,L.arr .u64 4 x.rules.MinWork,L.arr .u64 4 x.rules.Margin,L.int .i64 x.rules.Genesis.Version,L.arr .u8 32 x.rules.Genesis.Prev,L.arr .u8 32 x.rules.Genesis.Root,L.int .i64 x.rules.Genesis.Time,L.int .i64 x.rules.Genesis.Bits,L.int .i64 x.rules.Genesis.Nonce,L.own true 106 x.list,L.own true 38 x.spots,L.mp x.places,L.int .i64 x.room]
noncomputable def ZbJ {α:Type} (l:List L) (k:Zas→Option α):Option α:=match l with
  | [L.int .i64 x0,L.int .i64 x1,L.int .i64 x2,L.int .i64 x3,L.bool x4,L.sl 2 x5,L.sl 33 x6,L.arr .u64 4 x7,L.arr .u64 4 x8,L.int .i64 x9,L.arr .u8 32 x10,L.arr .u8 32 x11,L.int .i64 x12,L.int .i64 x13,L.int .i64 x14,L.own true 106 x15,L.own true 38 x16,L.mp x17,L.int .i64 x18]=>k ⟨⟨x0,x1,x2,x3,x4,x5,x6,x7,x8,⟨x9,x10,x11,x12,x13,x14⟩⟩,x15,x16,x17,x18⟩
  | _=>none
theorem ZbD {α:Type} {o:Option (List L)} {k:Zas→Option α} {r:α} (h:getE o ZbJ k=some r) : ∃x:Zas,o=some x.lo∧k x=some r:=by
  obtain ⟨l,e,k1⟩:=Zad h;subst e;unfold ZbJ at k1;split at k1
  · exact ⟨_,rfl,k1⟩
  · cases k1
@[simp] theorem Zce {α:Type} (x:Zas) (k:Zas→Option α):ZbJ x.lo k=k x:=rfl
noncomputable def Zas.ls (x:Zas):List L:=[L.int .i64 x.rules.Limit,L.int .i64 x.rules.Interval,L.int .i64 x.rules.Spacing,L.int .i64 x.rules.Future,L.bool x.rules.Easy,L.sl 2 x.rules.Gates,L.sl 33 x.rules.Checks,L.arr .u64 4 x.rules.MinWork,L.arr .u64 4 x.rules.Margin,L.int .i64 x.rules.Genesis.Version,L.arr .u8 32 x.rules.Genesis.Prev,L.arr .u8 32 x.rules.Genesis.Root,L.int .i64 x.rules.Genesis.Time,L.int .i64 x.rules.Genesis.Bits,L.int .i64 x.rules.Genesis.Nonce,L.sl 106 x.list,L.sl 38 x.spots,L.mz x.places,L.int .i64 x.room]
theorem Zas.bv {st:LL} (x:Zas):BVs st x.lo x.ls:=(bP (bP (bP (bP (bP (bS (bS (bP (bP (bP (bP (bP (bP (bP (bP (bW (bW (bM (bP bN)))))))))))))))))))
structure ZbL where
  Header:Zai
  Id:List Int
  Ahead:Int
  Height:Int
  Work:List Int
noncomputable def ZbL.ls (x:ZbL):List L:=[L.int .i64 x.Header.Version,L.arr .u8 32 x.Header.Prev,L.arr .u8 32 x.Header.Root,L.int .i64 x.Header.Time,L.int .i64 x.Header.Bits,L.int .i64 x.Header.Nonce,L.arr .u8 32 x.Id,L.int .i64 x.Ahead,L.int .i64 x.Height,L.arr .u64 4 x.Work]
noncomputable def ZdU {α:Type} (l:List L) (k:ZbL→Option α):Option α:=match l with
  | [L.int .i64 x0,L.arr .u8 32 x1,L.arr .u8 32 x2,L.int .i64 x3,L.int .i64 x4,L.int .i64 x5,L.arr .u8 32 x6,L.int .i64 x7,L.int .i64 x8,L.arr .u64 4 x9]=>k ⟨⟨x0,x1,x2,x3,x4,x5⟩,x6,x7,x8,x9⟩
  | _=>none
theorem ZeP {α:Type} {o:Option (List L)} {k:ZbL→Option α} {r:α} (h:getE o ZdU k=some r) : ∃x:ZbL,o=some x.ls∧k x=some r:=by
  obtain ⟨l,e,k1⟩:=Zad h;subst e;unfold ZdU at k1;split at k1
  · exact ⟨_,rfl,k1⟩
  · cases k1
@[simp] theorem ZeW {α:Type} (x:ZbL) (k:ZbL→Option α):ZdU x.ls k=k x:=rfl
theorem ZbL.bv {st:LL} (x:ZbL):BVs st x.ls x.ls:=(bP (bP (bP (bP (bP (bP (bP (bP (bP (bP bN))))))))))
structure Zae where
  store:Zas
  leaps:LL
noncomputable def Zae.ls (x:Zae):List L:=[L.bx 87 x.store.ls,L.sl 1 x.leaps]
structure Zbl where
  Header:Zai
  Now:Int
noncomputable def Zbl.ls (x:Zbl):List L:=[L.int .i64 x.Header.Version,L.arr .u8 32 x.Header.Prev,L.arr .u8 32 x.Header.Root,L.int .i64 x.Header.Time,L.int .i64 x.Header.Bits,L.int .i64 x.Header.Nonce,L.int .i64 x.Now]
noncomputable def ZcS {α:Type} (l:List L) (k:Zbl→Option α):Option α:=match l with
  | [L.int .i64 x0,L.arr .u8 32 x1,L.arr .u8 32 x2,L.int .i64 x3,L.int .i64 x4,L.int .i64 x5,L.int .i64 x6]=>k ⟨⟨x0,x1,x2,x3,x4,x5⟩,x6⟩
  | _=>none
theorem ZdT {α:Type} {o:Option (List L)} {k:Zbl→Option α} {r:α} (h:getE o ZcS k=some r) : ∃x:Zbl,o=some x.ls∧k x=some r:=by
  obtain ⟨l,e,k1⟩:=Zad h;subst e;unfold ZcS at k1;split at k1
  · exact ⟨_,rfl,k1⟩
  · cases k1
@[simp] theorem Zec {α:Type} (x:Zbl) (k:Zbl→Option α):ZcS x.ls k=k x:=rfl
theorem Zbl.bv {st:LL} (x:Zbl):BVs st x.ls x.ls:=(bP (bP (bP (bP (bP (bP (bP bN)))))))
structure Zab where
  Rules:Zaf
  List_:LL
  Ids:LL
  Ahead:LL
  Works:LL
  Room:Int
noncomputable def Zab.lo (x:Zab):List L:=[L.int .i64 x.Rules.Limit,L.int .i64 x.Rules.Interval,L.int .i64 x.Rules.Spacing,L.int .i64 x.Rules.Future,L.bool x.Rules.Easy,L.sl 2 x.Rules.Gates,L.sl 33 x.Rules.Checks,L.arr .u64 4 x.Rules.MinWork,L.arr .u64 4 x.Rules.Margin,L.int .i64 x.Rules.Genesis.Version,L.arr .u8 32 x.Rules.Genesis.Prev,L.arr .u8 32 x.Rules.Genesis.Root,L.int .i64 x.Rules.Genesis.Time,L.int .i64 x.Rules.Genesis.Bits,L.int .i64 x.Rules.Genesis.Nonce,L.own true 68 x.List_,L.own true 32 x.Ids,L.own true 1 x.Ahead,L.own true 4 x.Works,L.int .i64 x.Room]
noncomputable def Zcg {α:Type} (l:List L) (k:Zab→Option α):Option α:=match l with
  | [L.int .i64 x0,L.int .i64 x1,L.int .i64 x2,L.int .i64 x3,L.bool x4,L.sl 2 x5,L.sl 33 x6,L.arr .u64 4 x7,L.arr .u64 4 x8,L.int .i64 x9,L.arr .u8 32 x10,L.arr .u8 32 x11,L.int .i64 x12,L.int .i64 x13,L.int .i64 x14,L.own true 68 x15,L.own true 32 x16,L.own true 1 x17,L.own true 4 x18,L.int .i64 x19]=>k ⟨⟨x0,x1,x2,x3,x4,x5,x6,x7,x8,⟨x9,x10,x11,x12,x13,x14⟩⟩,x15,x16,x17,x18,x19⟩
  | _=>none
theorem ZcD {α:Type} {o:Option (List L)} {k:Zab→Option α} {r:α} (h:getE o Zcg k=some r) : ∃x:Zab,o=some x.lo∧k x=some r:=by
  obtain ⟨l,e,k1⟩:=Zad h;subst e;unfold Zcg at k1;split at k1
  · exact ⟨_,rfl,k1⟩
  · cases k1
@[simp] theorem ZcH {α:Type} (x:Zab) (k:Zab→Option α):Zcg x.lo k=k x:=rfl
noncomputable def Zab.ls (x:Zab):List L:=[L.int .i64 x.Rules.Limit,L.int .i64 x.Rules.Interval,L.int .i64 x.Rules.Spacing,L.int .i64 x.Rules.Future,L.bool x.Rules.Easy,L.sl 2 x.Rules.Gates,L.sl 33 x.Rules.Checks,L.arr .u64 4 x.Rules.MinWork,L.arr .u64 4 x.Rules.Margin,L.int .i64 x.Rules.Genesis.Version,L.arr .u8 32 x.Rules.Genesis.Prev,L.arr .u8 32 x.Rules.Genesis.Root,L.int .i64 x.Rules.Genesis.Time,L.int .i64 x.Rules.Genesis.Bits,L.int .i64 x.Rules.Genesis.Nonce,L.sl 68 x.List_,L.sl 32 x.Ids,L.sl 1 x.Ahead,L.sl 4 x.Works,L.int .i64 x.Room]
theorem Zab.bv {st:LL} (x:Zab):BVs st x.lo x.ls:=(bP (bP (bP (bP (bP (bS (bS (bP (bP (bP (bP (bP (bP (bP (bP (bW (bW (bW (bW (bP bN))))))))))))))))))))
noncomputable def ZfO {α:Type} (l:List L) (k:(List Int)→Option α):Option α:=match l with
  | [L.arr .u64 4 x0]=>k x0
  | _=>none
theorem ZgO {α:Type} {o:Option (List L)} {k:(List Int)→Option α} {r:α} (h:getE o ZfO k=some r) : ∃x0,o=some [L.arr .u64 4 x0]∧k x0=some r:=by
  obtain ⟨l,e,k1⟩:=Zad h;subst e;unfold ZfO at k1;split at k1
  · exact ⟨_,rfl,k1⟩
  · cases k1
@[simp] theorem ZkQ {α:Type} (x0:List Int) (k:(List Int)→Option α):ZfO [L.arr .u64 4 x0] k=k x0:=rfl
noncomputable def ZcG {α:Type} (l:List L) (k:(Option Nat)→LL→Option α):Option α:=match l with
  | [L.ptr x0,L.own true 1 x1]=>k x0 x1
  | _=>none
theorem Zcz {α:Type} {o:Option (List L)} {k:(Option Nat)→LL→Option α} {r:α} (h:getE o ZcG k=some r) : ∃x0 x1,o=some [L.ptr x0,L.own true 1 x1]∧k x0 x1=some r:=by
  obtain ⟨l,e,k1⟩:=Zad h;subst e;unfold ZcG at k1;split at k1
  · exact ⟨_,_,rfl,k1⟩
  · cases k1
@[simp] theorem Zdd {α:Type} (x0:Option Nat) (x1:LL) (k:(Option Nat)→LL→Option α):ZcG [L.ptr x0,L.own true 1 x1] k=k x0 x1:=rfl
theorem slices_Sort_int.snd:SortC Tryz.prog 119:=slices_Sort_int.holds
theorem Zdn.snd {x y z:Int} {r:Int×Int} (h:Zdn N x y z=some r):ExtI Tryz.prog 137 [(.u64,x),(.u64,y),(.u64,z)] [(.u64,r.1),(.u64,r.2)]:=ZiG Tryz.func137 (by kernel_rfl) (by kernel_rfl) (by kernel_rfl) (by kernel_rfl) h
theorem Zeb.snd {x y z:Int} {r:Int×Int} (h:Zeb N x y z=some r):ExtI Tryz.prog 173 [(.u64,x),(.u64,y),(.u64,z)] [(.u64,r.1),(.u64,r.2)]:=ZiF Tryz.func173 (by kernel_rfl) (by kernel_rfl) (by kernel_rfl) (by kernel_rfl) h
noncomputable def Zci.B:Code:=Tryz.f113.body.getD .skip
noncomputable def Zci.rs (r:(List Int)):List CV:=[.agg [L.arr .u64 4 r]]
noncomputable def Zci (N:Nat) (n_0:Int):Option (List Int):=
 some [n_0,0,0,0]
theorem Zci.snd {n_0:Int} {r:(List Int)} (h:Zci N n_0=some r):SndQ Tryz.prog 113 [.one (L.int .u64 n_0)] (Zci.rs r):=fun st=>
 sO Zci.B Tryz.func113 fun g0 w0 R hE=>by
  unfold Zci at h
  obtain rfl:=Zac h
  exact af fol hE [.r [],.r [(1,{m:=3})]] [] 0 [] trivial
noncomputable def Zbb.B:Code:=Tryz.f140.body.getD .skip
noncomputable def Zbb.rs (r:(List Int)):List CV:=[.agg [L.arr .u64 4 r]]
noncomputable def Zbb.p2 (N:Nat) (c1_:(Int×(List Int))→Option (List Int)) (n_1 v1:Int) (a_0_0 out_4:List Int):Option (List Int):=
 c1_ (w64 (v1+1),out_4)
noncomputable def Zbb.p1 (N:Nat) (n_1:Int) (a_0_0:List Int) (c1_:(Int×(List Int))→Option (List Int)):(Int×(List Int))→Option (List Int):=fun (v1,out_3)=>
 if (decide (v1<(w64 (4-(w64 (Int.tdiv (if (0:Int)>n_1 then 0 else n_1) 64))))))=true then
  chk (0≤(w64 (v1+(w64 (Int.tdiv (if (0:Int)>n_1 then 0 else n_1) 64)))))<|
  chk ((w64 (v1+(w64 (Int.tdiv (if (0:Int)>n_1 then 0 else n_1) 64))))<4)<|
  chk (0≤(Int.tmod (if (0:Int)>n_1 then 0 else n_1) 64))<|
  chk (0≤v1)<|
  chk (v1<4)<|
  if (decide ((w64 ((w64 (v1+(w64 (Int.tdiv (if (0:Int)>n_1 then 0 else n_1) 64))))+1))<4))=true then
   chk (0≤(w64 ((w64 (v1+(w64 (Int.tdiv (if (0:Int)>n_1 then 0 else n_1) 64))))+1)))<|
   chk (0≤(w64 (64-(Int.tmod (if (0:Int)>n_1 then 0 else n_1) 64))))<|
   Zbb.p2 N c1_ n_1 v1 a_0_0 (List.set (List.set out_3 (Int.toNat v1) (shrOf .u64 (List.getD a_0_0 (Int.toNat (w64 (v1+(w64 (Int.tdiv (if (0:Int)>n_1 then 0 else n_1) 64))))) 0) (Int.tmod (if (0:Int)>n_1 then 0 else n_1) 64))) (Int.toNat v1) (bitsOf .or .u64 (List.getD (List.set out_3 (Int.toNat v1) (shrOf .u64 (List.getD a_0_0 (Int.toNat (w64 (v1+(w64 (Int.tdiv (if (0:Int)>n_1 then 0 else n_1) 64))))) 0) (Int.tmod (if (0:Int)>n_1 then 0 else n_1) 64))) (Int.toNat v1) 0) (shlOf .u64 (List.getD a_0_0 (Int.toNat (w64 ((w64 (v1+(w64 (Int.tdiv (if (0:Int)>n_1 then 0 else n_1) 64))))+1))) 0) (w64 (64-(Int.tmod (if (0:Int)>n_1 then 0 else n_1) 64))))))
  else
  Zbb.p2 N c1_ n_1 v1 a_0_0 (List.set out_3 (Int.toNat v1) (shrOf .u64 (List.getD a_0_0 (Int.toNat (w64 (v1+(w64 (Int.tdiv (if (0:Int)>n_1 then 0 else n_1) 64))))) 0) (Int.tmod (if (0:Int)>n_1 then 0 else n_1) 64)))
 else
 some out_3
noncomputable def Zbb (N:Nat) (a_0_0:List Int) (n_1:Int):Option (List Int):=
 if (decide (n_1≥256))=true then
  some (List.replicate 4 0)
 else
 loopN (Zbb.p1 N n_1 a_0_0) N (0,List.replicate 4 0)
noncomputable def Zbb.p2.S (n_1 v1:Int) (a_0_0 out_4:List Int) (st:LL):S:=mkS 53 [(2,sA 2),(4,sA 4),(5,sA 5),(6,sI (w64 (Int.tdiv (if (0:Int)>n_1 then 0 else n_1) 64))),(7,sI (Int.tmod (if (0:Int)>n_1 then 0 else n_1) 64)),(19,sI (w64 (4-(w64 (Int.tdiv (if (0:Int)>n_1 then 0 else n_1) 64))))),(20,sI v1)] [(2,.cells [L.arr .u64 4 a_0_0]),(4,.cells [L.arr .u64 4 (List.replicate 4 0)]),(5,.cells [L.arr .u64 4 out_4])] st
noncomputable def Zbb.p1.S (n_1 v1:Int) (a_0_0 out_3:List Int) (st:LL):S:=mkS 53 [(2,sA 2),(4,sA 4),(5,sA 5),(6,sI (w64 (Int.tdiv (if (0:Int)>n_1 then 0 else n_1) 64))),(7,sI (Int.tmod (if (0:Int)>n_1 then 0 else n_1) 64)),(19,sI (w64 (4-(w64 (Int.tdiv (if (0:Int)>n_1 then 0 else n_1) 64))))),(20,sI v1)] [(2,.cells [L.arr .u64 4 a_0_0]),(4,.cells [L.arr .u64 4 (List.replicate 4 0)]),(5,.cells [L.arr .u64 4 out_3])] st
theorem Zbb.p2_ok {n_1 v1 a_0_0 out_4 st r c1_ J1} (h:Zbb.p2 N c1_ n_1 v1 a_0_0 out_4=some r) (hE:En Tryz.f140 g0 w0 (Zbb.rs r) st R) (hc1 : ∀v1 out_3,c1_ (v1,out_3)=some r→At g0 w0 (Zbb.p1.S n_1 v1 a_0_0 out_3 st) J1):At g0 w0 (Zbb.p2.S n_1 v1 a_0_0 out_4 st) (XK Tryz.prog R [.c (csub Zbb.B [1,1,1,1,0,1,0,0,1,1,1]),.h J1,.b 0,.c (csub Zbb.B [1,1,1,1,1])]):=by
 unfold Zbb.p2 at h
 exact an fol [.r []] [2,4,5,6,7,19,20] [2,4,5] trivial (hc1 (w64 (v1+1)) out_4 h)
theorem Zbb.p1_ok {n_1 v1 a_0_0 out_3 st r c1_ J1} (h:Zbb.p1 N n_1 a_0_0 c1_ (v1,out_3)=some r) (hE:En Tryz.f140 g0 w0 (Zbb.rs r) st R) (hc1 : ∀v1 out_3,c1_ (v1,out_3)=some r→At g0 w0 (Zbb.p1.S n_1 v1 a_0_0 out_3 st) J1):At g0 w0 (Zbb.p1.S n_1 v1 a_0_0 out_3 st) (XK Tryz.prog R (.c (csub Zbb.B [1,1,1,1,0,1,0,0]) :: .h J1 :: [.b 0,.c (csub Zbb.B [1,1,1,1,1])])):=by
 unfold Zbb.p1 at h
 refine iteB h (fun c11 h1=>?_) (fun c11 h2=>?_)
 ·obtain ⟨c12,c13,c14,c15,c16,h3⟩:=ck5 h1
  refine iteB h3 (fun c17 h4=>?_) (fun c17 h5=>?_)
  ·obtain ⟨c18,c19,h6⟩:=ck2 h4
   exact aqd fol [.r [],.c true,.r [],.r [],.r [],.c true,.d {ds:=[],hv:=16384,Hs:=[16384]},.s 4] [2,4,5,6,7,19,20] [2,4,5] (aO c11 c12 c13 c14 c15 c16 c17 (aN c15 c16 c18 (oD c17) c19 c15 c16)) (Zbb.p2_ok h6 hE hc1)
  ·exact aq fol [.r [],.c true,.r [],.r [],.r [],.c false,.s 4] [2,4,5,6,7,19,20] [2,4,5] (aN c11 c12 c13 c14 c15 c16 c17) (Zbb.p2_ok h5 hE hc1)
 ·obtain rfl:=Zac h2
  exact af fol hE [.r [],.c false,.r []] [] 0 [] c11
theorem Zbb.snd {a_0_0:List Int} {n_1:Int} {r:(List Int)} (h:Zbb N a_0_0 n_1=some r):SndQ Tryz.prog 140 [.agg [L.arr .u64 4 a_0_0],oI n_1] (Zbb.rs r):=fun st=>
 sO Zbb.B Tryz.func140 fun g0 w0 R hE=>by
  unfold Zbb at h
  refine iteB h (fun c1 h7=>?_) (fun c1 h8=>?_)
  ·obtain rfl:=Zac h7
   exact af fol hE [.r [],.r [],.c true,.r []] [] 0 [] c1
  ·exact aq fol [.r [],.r [],.c false,.r [],.r [],.r []] [2,4,5,6,7,19,20] [2,4,5] (aJ c1 (neI 64) (neI 64)) (At.loop N (At.loopN (fun y:Int×(List Int)=>Zbb.p1.S n_1 y.1 a_0_0 y.2 st) (fun c J hc y h=>Zbb.p1_ok (v1:=y.1) (out_3:=y.2) h hE (fun v1 out_3=>hc (v1,out_3))) N (0,List.replicate 4 0) h8))
noncomputable def Zbu.B:Code:=Tryz.f139.body.getD .skip
noncomputable def Zbu.rs (r:(List Int)):List CV:=[.agg [L.arr .u64 4 r]]
noncomputable def Zbu.p2 (N:Nat) (c1_:(Int×(List Int))→Option (List Int)) (n_1 i_1:Int) (a_0_0 out_4:List Int):Option (List Int):=
 c1_ (w64 (i_1+1),out_4)
noncomputable def Zbu.p1 (N:Nat) (n_1:Int) (a_0_0:List Int) (c1_:(Int×(List Int))→Option (List Int)):(Int×(List Int))→Option (List Int):=fun (i_1,out_3)=>
 if (decide (i_1<4))=true then
  chk (0≤(w64 (i_1-(w64 (Int.tdiv (if (0:Int)>n_1 then 0 else n_1) 64)))))<|
  chk ((w64 (i_1-(w64 (Int.tdiv (if (0:Int)>n_1 then 0 else n_1) 64))))<4)<|
  chk (0≤(Int.tmod (if (0:Int)>n_1 then 0 else n_1) 64))<|
  chk (0≤i_1)<|
  if (decide (i_1>(w64 (Int.tdiv (if (0:Int)>n_1 then 0 else n_1) 64))))=true then
   chk (0≤(w64 ((w64 (i_1-(w64 (Int.tdiv (if (0:Int)>n_1 then 0 else n_1) 64))))-1)))<|
   chk ((w64 ((w64 (i_1-(w64 (Int.tdiv (if (0:Int)>n_1 then 0 else n_1) 64))))-1))<4)<|
   chk (0≤(w64 (64-(Int.tmod (if (0:Int)>n_1 then 0 else n_1) 64))))<|
   Zbu.p2 N c1_ n_1 i_1 a_0_0 (List.set (List.set out_3 (Int.toNat i_1) (shlOf .u64 (List.getD a_0_0 (Int.toNat (w64 (i_1-(w64 (Int.tdiv (if (0:Int)>n_1 then 0 else n_1) 64))))) 0) (Int.tmod (if (0:Int)>n_1 then 0 else n_1) 64))) (Int.toNat i_1) (bitsOf .or .u64 (List.getD (List.set out_3 (Int.toNat i_1) (shlOf .u64 (List.getD a_0_0 (Int.toNat (w64 (i_1-(w64 (Int.tdiv (if (0:Int)>n_1 then 0 else n_1) 64))))) 0) (Int.tmod (if (0:Int)>n_1 then 0 else n_1) 64))) (Int.toNat i_1) 0) (shrOf .u64 (List.getD a_0_0 (Int.toNat (w64 ((w64 (i_1-(w64 (Int.tdiv (if (0:Int)>n_1 then 0 else n_1) 64))))-1))) 0) (w64 (64-(Int.tmod (if (0:Int)>n_1 then 0 else n_1) 64))))))
  else
  Zbu.p2 N c1_ n_1 i_1 a_0_0 (List.set out_3 (Int.toNat i_1) (shlOf .u64 (List.getD a_0_0 (Int.toNat (w64 (i_1-(w64 (Int.tdiv (if (0:Int)>n_1 then 0 else n_1) 64))))) 0) (Int.tmod (if (0:Int)>n_1 then 0 else n_1) 64)))
 else
 some out_3
noncomputable def Zbu (N:Nat) (a_0_0:List Int) (n_1:Int):Option (List Int):=
 if (decide (n_1≥256))=true then
  some (List.replicate 4 0)
 else
 loopN (Zbu.p1 N n_1 a_0_0) N (w64 (Int.tdiv (if (0:Int)>n_1 then 0 else n_1) 64),List.replicate 4 0)
noncomputable def Zbu.p2.S (n_1 i_1:Int) (a_0_0 out_4:List Int) (st:LL):S:=mkS 50 [(2,sA 2),(4,sA 4),(5,sA 5),(6,sI (w64 (Int.tdiv (if (0:Int)>n_1 then 0 else n_1) 64))),(7,sI (Int.tmod (if (0:Int)>n_1 then 0 else n_1) 64)),(8,sI i_1)] [(2,.cells [L.arr .u64 4 a_0_0]),(4,.cells [L.arr .u64 4 (List.replicate 4 0)]),(5,.cells [L.arr .u64 4 out_4])] st
noncomputable def Zbu.p1.S (n_1 i_1:Int) (a_0_0 out_3:List Int) (st:LL):S:=mkS 50 [(2,sA 2),(4,sA 4),(5,sA 5),(6,sI (w64 (Int.tdiv (if (0:Int)>n_1 then 0 else n_1) 64))),(7,sI (Int.tmod (if (0:Int)>n_1 then 0 else n_1) 64)),(8,sI i_1)] [(2,.cells [L.arr .u64 4 a_0_0]),(4,.cells [L.arr .u64 4 (List.replicate 4 0)]),(5,.cells [L.arr .u64 4 out_3])] st
theorem Zbu.p2_ok {n_1 i_1 a_0_0 out_4 st r c1_ J1} (h:Zbu.p2 N c1_ n_1 i_1 a_0_0 out_4=some r) (hE:En Tryz.f139 g0 w0 (Zbu.rs r) st R) (hc1 : ∀i_1 out_3,c1_ (i_1,out_3)=some r→At g0 w0 (Zbu.p1.S n_1 i_1 a_0_0 out_3 st) J1):At g0 w0 (Zbu.p2.S n_1 i_1 a_0_0 out_4 st) (XK Tryz.prog R [.c (csub Zbu.B [1,1,1,1,0,1,0,0,1,1]),.h J1,.b 0,.c (csub Zbu.B [1,1,1,1,1])]):=by
 unfold Zbu.p2 at h
 exact an fol [.r []] [2,4,5,6,7,8] [2,4,5] trivial (hc1 (w64 (i_1+1)) out_4 h)
theorem Zbu.p1_ok {n_1 i_1 a_0_0 out_3 st r c1_ J1} (h:Zbu.p1 N n_1 a_0_0 c1_ (i_1,out_3)=some r) (hE:En Tryz.f139 g0 w0 (Zbu.rs r) st R) (hc1 : ∀i_1 out_3,c1_ (i_1,out_3)=some r→At g0 w0 (Zbu.p1.S n_1 i_1 a_0_0 out_3 st) J1):At g0 w0 (Zbu.p1.S n_1 i_1 a_0_0 out_3 st) (XK Tryz.prog R (.c (csub Zbu.B [1,1,1,1,0,1,0,0]) :: .h J1 :: [.b 0,.c (csub Zbu.B [1,1,1,1,1])])):=by
 unfold Zbu.p1 at h
 refine iteB h (fun c11 h1=>?_) (fun c11 h2=>?_)
 ·obtain ⟨c12,c13,c14,c15,h3⟩:=ck4 h1
  refine iteB h3 (fun c16 h4=>?_) (fun c16 h5=>?_)
  ·obtain ⟨c17,c18,c19,h6⟩:=ck3 h4
   exact aqd fol [.r [],.c true,.r [],.r [],.c true,.d {ds:=[],hv:=16384,Hs:=[16384]},.s 4] [2,4,5,6,7,8] [2,4,5] (aO c11 c12 c13 c14 c15 (oD c11) c16 (aN c15 (oD c11) c17 c18 c19 c15 (oD c11))) (Zbu.p2_ok h6 hE hc1)
  ·exact aq fol [.r [],.c true,.r [],.r [],.c false,.s 4] [2,4,5,6,7,8] [2,4,5] (aN c11 c12 c13 c14 c15 (oD c11) c16) (Zbu.p2_ok h5 hE hc1)
 ·obtain rfl:=Zac h2
  exact af fol hE [.r [],.c false,.r []] [] 0 [] c11
theorem Zbu.snd {a_0_0:List Int} {n_1:Int} {r:(List Int)} (h:Zbu N a_0_0 n_1=some r):SndQ Tryz.prog 139 [.agg [L.arr .u64 4 a_0_0],oI n_1] (Zbu.rs r):=fun st=>
 sO Zbu.B Tryz.func139 fun g0 w0 R hE=>by
  unfold Zbu at h
  refine iteB h (fun c1 h7=>?_) (fun c1 h8=>?_)
  ·obtain rfl:=Zac h7
   exact af fol hE [.r [],.r [],.c true,.r []] [] 0 [] c1
  ·exact aq fol [.r [],.r [],.c false,.r [],.r [],.r []] [2,4,5,6,7,8] [2,4,5] (aJ c1 (neI 64) (neI 64)) (At.loop N (At.loopN (fun y:Int×(List Int)=>Zbu.p1.S n_1 y.1 a_0_0 y.2 st) (fun c J hc y h=>Zbu.p1_ok (i_1:=y.1) (out_3:=y.2) h hE (fun i_1 out_3=>hc (i_1,out_3))) N (w64 (Int.tdiv (if (0:Int)>n_1 then 0 else n_1) 64),List.replicate 4 0) h8))
noncomputable def ZaB.B:Code:=Tryz.f117.body.getD .skip
noncomputable def ZaB.rs (r:(List Int)×Bool×Bool):List CV:=[.agg [L.arr .u64 4 r.1],oB r.2.1,oB r.2.2]
noncomputable def ZaB.p2 (N:Nat) (bits_0:Int) (below_6:Bool) (n_5:List Int):Option ((List Int)×Bool×Bool):=
 if ((bitsOf .and .i64 bits_0 8388607) != 0)=true then
  if (decide ((shrOf .i64 bits_0 24)>34))=true then
   some (n_5,below_6,true)
  else
  if (decide ((bitsOf .and .i64 bits_0 8388607)>255))=true then
   if (decide ((shrOf .i64 bits_0 24)>33))=true then
    some (n_5,below_6,true)
   else
   if (decide ((bitsOf .and .i64 bits_0 8388607)>65535))=true then
    some (n_5,below_6,decide ((shrOf .i64 bits_0 24)>32))
   else
   some (n_5,below_6,false)
  else
  if (decide ((bitsOf .and .i64 bits_0 8388607)>65535))=true then
   some (n_5,below_6,decide ((shrOf .i64 bits_0 24)>32))
  else
  some (n_5,below_6,false)
 else
 some (n_5,below_6,false)
noncomputable def ZaB.p1 (N:Nat) (bits_0:Int) (n_5:List Int):Option ((List Int)×Bool×Bool):=
 if ((bitsOf .and .i64 bits_0 8388607) != 0)=true then
  ZaB.p2 N bits_0 ((bitsOf .and .i64 bits_0 8388608) != 0) n_5
 else
 ZaB.p2 N bits_0 false n_5
noncomputable def ZaB (N:Nat) (bits_0:Int):Option ((List Int)×Bool×Bool):=
 optE (Zcp N bits_0) fun x1=>
 if (!x1)=true then
  some (List.replicate 4 0,false,false)
 else
 optE (Zci N (v64 (bitsOf .and .i64 bits_0 8388607))) fun x2=>
 if (decide ((shrOf .i64 bits_0 24)≤3))=true then
  optE (Zbb N x2 (w64 (8*(w64 (3-(shrOf .i64 bits_0 24)))))) fun x3=>
  ZaB.p1 N bits_0 x3
 else
 optE (Zbu N x2 (w64 (8*(w64 ((shrOf .i64 bits_0 24)-3))))) fun x4=>
 ZaB.p1 N bits_0 x4
noncomputable def ZaB.p2.S (bits_0:Int) (below_6:Bool) (n_5:List Int) (st:LL):S:=mkS 65 [(2,sA 2),(5,sI (shrOf .i64 bits_0 24)),(6,sI (bitsOf .and .i64 bits_0 8388607)),(7,sA 7),(8,.one (.l (L.bool below_6)))] [(2,.cells [L.arr .u64 4 (List.replicate 4 0)]),(7,.cells [L.arr .u64 4 n_5])] st
noncomputable def ZaB.p1.S (bits_0:Int) (n_5:List Int) (st:LL):S:=mkS 65 [(0,sI bits_0),(2,sA 2),(5,sI (shrOf .i64 bits_0 24)),(6,sI (bitsOf .and .i64 bits_0 8388607)),(7,sA 7)] [(2,.cells [L.arr .u64 4 (List.replicate 4 0)]),(7,.cells [L.arr .u64 4 n_5])] st
theorem ZaB.p2_ok {bits_0 below_6 n_5 st r} (h:ZaB.p2 N bits_0 below_6 n_5=some r) (hE:En Tryz.f117 g0 w0 (ZaB.rs r) st R):At g0 w0 (ZaB.p2.S bits_0 below_6 n_5 st) (XK Tryz.prog R [.c (csub ZaB.B [1,1,1,1,1,1])]):=by
 unfold ZaB.p2 at h
 refine iteB h (fun c8 h1=>?_) (fun c8 h2=>?_)
 ·refine iteB h1 (fun c9 h3=>?_) (fun c9 h4=>?_)
  ·obtain rfl:=Zac h3
   exact af fol hE [.r [(6,wF),(7,wF),(8,wF),(11,wF),(14,wF),(15,wF),(16,wF),(19,wF)],.r []] [] 0 [] (aO c8 c8 c8 c9 c9 c9 c9 (aO c8 c9 c8 eT eT eT eT (aJ c8 eT c8)))
  ·refine iteB h4 (fun c10 h5=>?_) (fun c10 h6=>?_)
   ·refine iteB h5 (fun c11 h7=>?_) (fun c11 h8=>?_)
    ·obtain rfl:=Zac h7
     exact af fol hE [.r [(12,yF),(14,wF),(15,wF),(16,wF),(19,wF)],.r []] [] 0 [] (aO c8 c8 c8 c9 c9 c9 c10 (aO c10 c9 c10 c8 c9 c8 c11 (aM c11 c11 c11 c8 c11 c8)))
    ·refine iteB h8 (fun c12 h9=>?_) (fun c12 h10=>?_)
     ·obtain rfl:=Zac h9
      exact af fol hE [.r [(12,yF),(20,yF)],.r []] [] 0 [] (aO c8 c8 c8 c9 c9 c9 c10 (aO c10 c9 c10 c8 c9 c8 c11 (aO c11 c11 c12 c12 c11 c12 c8 (aI c11 c8))))
     ·obtain rfl:=Zac h10
      exact af fol hE [.r [(12,yF),(17,wF),(18,wF),(19,yF),(20,yF)],.r []] [] 0 [] (aO c8 c8 c8 c9 c9 c9 c10 (aO c10 c9 c10 c8 c9 c8 c11 (aO c11 c11 c12 c12 c11 c12 c8 (aI c11 c8))))
   ·refine iteB h6 (fun c13 h11=>?_) (fun c13 h12=>?_)
    ·obtain rfl:=Zac h11
     exact af fol hE [.r [(9,wF),(10,wF),(11,yF),(12,yF),(20,yF)],.r []] [] 0 [] (aO c8 c8 c8 c9 c9 c9 c10 (aO c10 c9 c10 c8 c9 c8 eF (aO eF eF c13 c13 eF c13 c8 (aI eF c8))))
    ·obtain rfl:=Zac h12
     exact af fol hE [.r [(9,wF),(10,wF),(11,yF),(12,yF),(17,wF),(18,wF),(19,yF),(20,yF)],.r []] [] 0 [] (aO c8 c8 c8 c9 c9 c9 c10 (aO c10 c9 c10 c8 c9 c8 eF (aO eF eF c13 c13 eF c13 c8 (aI eF c8))))
 ·obtain rfl:=Zac h2
  exact af fol hE [.r [(3,wF),(4,wF),(5,wF),(12,wF),(13,wF),(20,wF),(21,yF)],.r []] [] 0 [] (aN c8 c8 c8 c8 c8 c8 c8)
theorem ZaB.p1_ok {bits_0 n_5 st r} (h:ZaB.p1 N bits_0 n_5=some r) (hE:En Tryz.f117 g0 w0 (ZaB.rs r) st R):At g0 w0 (ZaB.p1.S bits_0 n_5 st) (XK Tryz.prog R [.c (csub ZaB.B [1,1,1,1,1])]):=by
 unfold ZaB.p1 at h
 refine iteB h (fun c7 h13=>?_) (fun c7 h14=>?_)
 ·exact aq fol [.r [],.s 1] [2,5,6,7,8] [2,7] (aK c7 c7 c7 c7) (ZaB.p2_ok h13 hE)
 ·exact aq fol [.r [(3,wF),(4,wF),(5,wF),(6,yF)],.s 1] [2,5,6,7,8] [2,7] (aK c7 c7 c7 c7) (ZaB.p2_ok h14 hE)
theorem ZaB.snd {bits_0:Int} {r:(List Int)×Bool×Bool} (h:ZaB N bits_0=some r):SndQ Tryz.prog 117 [oI bits_0] (ZaB.rs r):=fun st=>
 sO ZaB.B Tryz.func117 fun g0 w0 R hE=>by
  unfold ZaB at h
  obtain ⟨x1,c1,h15⟩:=Zad h
  refine iteB h15 (fun c2 h16=>?_) (fun c2 h17=>?_)
  ·obtain rfl:=Zac h16
   exact af fol hE [.r [],.r [(1,q1 [oB x1])],.c true,.r []] [] 0 [] (aI (Zcp.snd c1) c2)
  ·obtain ⟨x2,c3,h18⟩:=Zad h17
   refine iteB h18 (fun c4 h19=>?_) (fun c4 h20=>?_)
   ·obtain ⟨x3,c5,h21⟩:=Zad h19
    exact aq fol [.r [],.r [(1,q1 [oB x1])],.c false,.r [],.r [(2,q1 [.agg [L.arr .u64 4 x2]])],.r [],.c true,.r [(4,q1 [.agg [L.arr .u64 4 x3]])],.s 1] [0,2,5,6,7] [2,7] (aM (Zcp.snd c1) c2 (leI 0 24) (Zci.snd c3) c4 (Zbb.snd c5)) (ZaB.p1_ok h21 hE)
   ·obtain ⟨x4,c6,h22⟩:=Zad h20
    exact aq fol [.r [],.r [(1,q1 [oB x1])],.c false,.r [],.r [(2,q1 [.agg [L.arr .u64 4 x2]])],.r [],.c false,.r [(4,q1 [.agg [L.arr .u64 4 x4]])],.s 1] [0,2,5,6,7] [2,7] (aM (Zcp.snd c1) c2 (leI 0 24) (Zci.snd c3) c4 (Zbu.snd c6)) (ZaB.p1_ok h22 hE)
noncomputable def Zcq.B:Code:=Tryz.f115.body.getD .skip
noncomputable def Zcq.rs (r:Bool):List CV:=[oB r]
noncomputable def Zcq (N:Nat) (a_0_0:List Int):Option Bool:=
 some (a_0_0==(List.replicate 4 0))
theorem Zcq.snd {a_0_0:List Int} {r:Bool} (h:Zcq N a_0_0=some r):SndQ Tryz.prog 115 [.agg [L.arr .u64 4 a_0_0]] (Zcq.rs r):=fun st=>
 sO Zcq.B Tryz.func115 fun g0 w0 R hE=>by
  unfold Zcq at h
  obtain rfl:=Zac h
  exact af fol hE [.r [],.r []] [] 0 [] trivial
noncomputable def Zbp.B:Code:=Tryz.f68.body.getD .skip
noncomputable def Zbp.rs (r:Int):List CV:=[oI r]
noncomputable def Zbp.p1 (N:Nat) (a_0_0 b_1_0:List Int) (c1_:Int→Option Int):Int→Option Int:=fun i_1=>
 if (decide (i_1≥0))=true then
  chk (0≤i_1)<|
  chk (i_1<4)<|
  if (decide ((List.getD a_0_0 (Int.toNat i_1) 0)<(List.getD b_1_0 (Int.toNat i_1) 0)))=true then
   some (-1)
  else
  if (decide ((List.getD a_0_0 (Int.toNat i_1) 0)>(List.getD b_1_0 (Int.toNat i_1) 0)))=true then
   some 1
  else
  c1_ (w64 (i_1-1))
 else
 some 0
noncomputable def Zbp (N:Nat) (a_0_0 b_1_0:List Int):Option Int:=
 loopN (Zbp.p1 N a_0_0 b_1_0) N 3
noncomputable def Zbp.p1.S (i_1:Int) (a_0_0 b_1_0:List Int) (st:LL):S:=mkS 26 [(2,sA 2),(3,sA 3),(5,sI i_1)] [(2,.cells [L.arr .u64 4 a_0_0]),(3,.cells [L.arr .u64 4 b_1_0])] st
theorem Zbp.p1_ok {i_1 a_0_0 b_1_0 st r c1_ J1} (h:Zbp.p1 N a_0_0 b_1_0 c1_ i_1=some r) (hE:En Tryz.f68 g0 w0 (Zbp.rs r) st R) (hc1 : ∀i_1,c1_ i_1=some r→At g0 w0 (Zbp.p1.S i_1 a_0_0 b_1_0 st) J1):At g0 w0 (Zbp.p1.S i_1 a_0_0 b_1_0 st) (XK Tryz.prog R (.c (csub Zbp.B [1,0,1,0,0]) :: .h J1 :: [.b 0,.c (csub Zbp.B [1,1])])):=by
 unfold Zbp.p1 at h
 refine iteB h (fun c1 h1=>?_) (fun c1 h2=>?_)
 ·obtain ⟨c2,c3,h3⟩:=ck2 h1
  refine iteB h3 (fun c4 h4=>?_) (fun c4 h5=>?_)
  ·obtain rfl:=Zac h4
   exact afd fol hE [.r [],.c true,.d {ds:=[],hv:=0,Hs:=[]},.c true,.r []] [] 0 [] (aM c1 c2 c3 c2 c3 c4)
  ·refine iteB h5 (fun c5 h6=>?_) (fun c5 h7=>?_)
   ·obtain rfl:=Zac h6
    exact afd fol hE [.r [],.c true,.d {ds:=[],hv:=0,Hs:=[]},.c false,.d {ds:=[],hv:=0,Hs:=[]},.c true,.r []] [] 0 [] (aO c1 c2 c3 c2 c3 c4 c2 (aK c3 c2 c3 c5))
   ·exact and_ fol [.r [],.c true,.d {ds:=[],hv:=0,Hs:=[]},.c false,.d {ds:=[],hv:=0,Hs:=[]},.c false,.r []] [2,3,5] [2,3] (aO c1 c2 c3 c2 c3 c4 c2 (aK c3 c2 c3 c5)) (hc1 (w64 (i_1-1)) h7)
 ·obtain rfl:=Zac h2
  exact af fol hE [.r [],.c false,.r []] [] 0 [] c1
theorem Zbp.snd {a_0_0 b_1_0:List Int} {r:Int} (h:Zbp N a_0_0 b_1_0=some r):SndQ Tryz.prog 68 [.agg [L.arr .u64 4 a_0_0],.agg [L.arr .u64 4 b_1_0]] (Zbp.rs r):=fun st=>
 sO Zbp.B Tryz.func68 fun g0 w0 R hE=>by
  unfold Zbp at h
  exact aq fol [.r [],.r []] [2,3,5] [2,3] trivial (At.loop N (At.loopN (fun y:Int=>Zbp.p1.S y a_0_0 b_1_0 st) (fun c J hc y h=>Zbp.p1_ok h hE (fun i_1=>hc i_1)) N 3 h))
noncomputable def Zct.B:Code:=Tryz.f114.body.getD .skip
noncomputable def Zct.rs (r:Bool):List CV:=[oB r]
noncomputable def Zct (N:Nat) (a_0_0 b_1_0:List Int):Option Bool:=
 optE (Zbp N a_0_0 b_1_0) fun x1=>
 some (decide (x1<0))
theorem Zct.snd {a_0_0 b_1_0:List Int} {r:Bool} (h:Zct N a_0_0 b_1_0=some r):SndQ Tryz.prog 114 [.agg [L.arr .u64 4 a_0_0],.agg [L.arr .u64 4 b_1_0]] (Zct.rs r):=fun st=>
 sO Zct.B Tryz.func114 fun g0 w0 R hE=>by
  unfold Zct at h
  obtain ⟨x1,c1,h1⟩:=Zad h
  obtain rfl:=Zac h1
  exact af fol hE [.r [],.r [(2,q1 [oI x1])]] [] 0 [] (Zbp.snd c1)
noncomputable def ZaW.B:Code:=Tryz.f89.body.getD .skip
noncomputable def ZaW.rs (r:(List Int)×Bool):List CV:=[.agg [L.arr .u64 4 r.1],oB r.2]
noncomputable def ZaW (N:Nat) (bits_0 limit_1:Int):Option ((List Int)×Bool):=
 optE (ZaB N bits_0) fun (x1,x2,x3)=>
 optE (ZaB N limit_1) fun (x4,x5,x6)=>
 if x2=true then
  some (List.replicate 4 0,false)
 else
 if x3=true then
  some (List.replicate 4 0,false)
 else
 if x5=true then
  some (List.replicate 4 0,false)
 else
 if x6=true then
  some (List.replicate 4 0,false)
 else
 optE (Zcq N x1) fun x7=>
 if x7=true then
  some (List.replicate 4 0,false)
 else
 optE (Zct N x4 x1) fun x8=>
 if x8=true then
  some (List.replicate 4 0,false)
 else
 some (x1,true)
theorem ZaW.snd {bits_0 limit_1:Int} {r:(List Int)×Bool} (h:ZaW N bits_0 limit_1=some r):SndQ Tryz.prog 89 [oI bits_0,oI limit_1] (ZaW.rs r):=fun st=>
 sO ZaW.B Tryz.func89 fun g0 w0 R hE=>by
  unfold ZaW at h
  obtain ⟨⟨x1,x2,x3⟩,c1,h1⟩:=Zad h
  obtain ⟨⟨x4,x5,x6⟩,c2,h2⟩:=Zad h1
  refine iteB h2 (fun c3 h3=>?_) (fun c3 h4=>?_)
  ·obtain rfl:=Zac h3
   exact af fol hE [.r [],.r [(1,q1 [.agg [L.arr .u64 4 x1],oB x2,oB x3])],.r [(1,q1 [.agg [L.arr .u64 4 x4],oB x5,oB x6])],.r [(2,wF),(5,wF),(8,wF),(11,wF),(12,wF),(15,wF),(16,wF),(17,wF)],.c true,.r []] [] 0 [] (aO (ZaB.snd c1) (ZaB.snd c2) c3 c3 eT eT eT (aO eT eT eT eT eT eT eT (aI eT eT)))
  ·refine iteB h4 (fun c4 h5=>?_) (fun c4 h6=>?_)
   ·obtain rfl:=Zac h5
    exact af fol hE [.r [],.r [(1,q1 [.agg [L.arr .u64 4 x1],oB x2,oB x3])],.r [(1,q1 [.agg [L.arr .u64 4 x4],oB x5,oB x6])],.r [(3,yF),(5,wF),(8,wF),(11,wF),(12,wF),(15,wF),(16,wF),(17,wF)],.c true,.r []] [] 0 [] (aO (ZaB.snd c1) (ZaB.snd c2) c3 c3 c4 c4 eT (aO eT eT eT eT eT eT eT (aI eT eT)))
   ·refine iteB h6 (fun c5 h7=>?_) (fun c5 h8=>?_)
    ·obtain rfl:=Zac h7
     exact af fol hE [.r [],.r [(1,q1 [.agg [L.arr .u64 4 x1],oB x2,oB x3])],.r [(1,q1 [.agg [L.arr .u64 4 x4],oB x5,oB x6])],.r [(3,yF),(6,yF),(8,wF),(11,wF),(12,wF),(15,wF),(16,wF),(17,wF)],.c true,.r []] [] 0 [] (aO (ZaB.snd c1) (ZaB.snd c2) c3 c3 c4 c4 c5 (aO c5 eT eT eT eT eT eT (aI eT eT)))
    ·refine iteB h8 (fun c6 h9=>?_) (fun c6 h10=>?_)
     ·obtain rfl:=Zac h9
      exact af fol hE [.r [],.r [(1,q1 [.agg [L.arr .u64 4 x1],oB x2,oB x3])],.r [(1,q1 [.agg [L.arr .u64 4 x4],oB x5,oB x6])],.r [(3,yF),(6,yF),(9,yF),(11,wF),(12,wF),(15,wF),(16,wF),(17,wF)],.c true,.r []] [] 0 [] (aO (ZaB.snd c1) (ZaB.snd c2) c3 c3 c4 c4 c5 (aO c5 c6 c6 c6 eT eT eT (aI eT eT)))
     ·obtain ⟨x7,c7,h11⟩:=Zad h10
      refine iteB h11 (fun c8 h12=>?_) (fun c8 h13=>?_)
      ·obtain rfl:=Zac h12
       exact af fol hE [.r [],.r [(1,q1 [.agg [L.arr .u64 4 x1],oB x2,oB x3])],.r [(1,q1 [.agg [L.arr .u64 4 x4],oB x5,oB x6])],.r [(3,yF),(6,yF),(9,yF),(12,q1 [oB x7]),(13,yF),(15,wF),(16,wF),(17,wF)],.c true,.r []] [] 0 [] (aO (ZaB.snd c1) (ZaB.snd c2) c3 c3 c4 c4 c5 (aO c5 c6 c6 (Zcq.snd c7) c6 c8 c8 (aJ c8 c8 eT)))
      ·obtain ⟨x8,c9,h14⟩:=Zad h13
       refine iteB h14 (fun c10 h15=>?_) (fun c10 h16=>?_)
       ·obtain rfl:=Zac h15
        exact af fol hE [.r [],.r [(1,q1 [.agg [L.arr .u64 4 x1],oB x2,oB x3])],.r [(1,q1 [.agg [L.arr .u64 4 x4],oB x5,oB x6])],.r [(3,yF),(6,yF),(9,yF),(12,q1 [oB x7]),(13,yF),(17,q1 [oB x8]),(18,yF)],.c true,.r []] [] 0 [] (aO (ZaB.snd c1) (ZaB.snd c2) c3 c3 c4 c4 c5 (aO c5 c6 c6 (Zcq.snd c7) c6 c8 c8 (aK c8 (Zct.snd c9) c8 c10)))
       ·obtain rfl:=Zac h16
        exact af fol hE [.r [],.r [(1,q1 [.agg [L.arr .u64 4 x1],oB x2,oB x3])],.r [(1,q1 [.agg [L.arr .u64 4 x4],oB x5,oB x6])],.r [(3,yF),(6,yF),(9,yF),(12,q1 [oB x7]),(13,yF),(17,q1 [oB x8]),(18,yF)],.c false,.r []] [] 0 [] (aO (ZaB.snd c1) (ZaB.snd c2) c3 c3 c4 c4 c5 (aO c5 c6 c6 (Zcq.snd c7) c6 c8 c8 (aK c8 (Zct.snd c9) c8 c10)))
noncomputable def ZcF.B:Code:=Tryz.f86.body.getD .skip
noncomputable def ZcF.rs (r:Bool):List CV:=[oB r]
noncomputable def ZcF (N:Nat) (p_0:Zaf):Option Bool:=
 optE (ZaW N p_0.Limit p_0.Limit) fun (x1,x2)=>
 if x2=true then
  if (decide (p_0.Interval≥2))=true then
   if (decide (p_0.Interval≤64))=true then
    if (decide (p_0.Spacing≥1))=true then
     if (decide (p_0.Spacing≤10000))=true then
      if (decide (p_0.Future≥0))=true then
       some (decide (p_0.Future<4294967296))
      else
      some false
     else
     some false
    else
    some false
   else
   some false
  else
  some false
 else
 some false
theorem ZcF.snd {p_0:Zaf} {r:Bool} (h:ZcF N p_0=some r):SndQ Tryz.prog 86 [.agg p_0.ls] (ZcF.rs r):=fun st=>
 sO ZcF.B Tryz.func86 fun g0 w0 R hE=>by
  unfold ZcF at h
  obtain ⟨⟨x1,x2⟩,c1,h1⟩:=Zad h
  refine iteB h1 (fun c2 h2=>?_) (fun c2 h3=>?_)
  ·refine iteB h2 (fun c3 h4=>?_) (fun c3 h5=>?_)
   ·refine iteB h4 (fun c4 h6=>?_) (fun c4 h7=>?_)
    ·refine iteB h6 (fun c5 h8=>?_) (fun c5 h9=>?_)
     ·refine iteB h8 (fun c6 h10=>?_) (fun c6 h11=>?_)
      ·refine iteB h10 (fun c7 h12=>?_) (fun c7 h13=>?_)
       ·obtain rfl:=Zac h12
        exact af fol hE [.r [],.r [(4,q1 [.agg [L.arr .u64 4 x1],oB x2])],.r []] [] 0 [] (aO (ZaW.snd c1) c2 c2 c2 c2 c3 c3 (aO c3 c3 c4 c4 c4 c4 c5 (aO c5 c5 c5 c6 c6 c6 c6 (aK c7 c7 c7 c7))))
       ·obtain rfl:=Zac h13
        exact af fol hE [.r [],.r [(4,q1 [.agg [L.arr .u64 4 x1],oB x2])],.r [(27,wF),(28,wF),(29,wF),(30,yF)]] [] 0 [] (aO (ZaW.snd c1) c2 c2 c2 c2 c3 c3 (aO c3 c3 c4 c4 c4 c4 c5 (aO c5 c5 c5 c6 c6 c6 c6 (aK c7 c7 c7 c7))))
      ·obtain rfl:=Zac h11
       exact af fol hE [.r [],.r [(4,q1 [.agg [L.arr .u64 4 x1],oB x2])],.r [(22,wF),(23,wF),(24,wF),(25,yF),(27,wF),(28,wF),(29,wF),(30,yF)]] [] 0 [] (aO (ZaW.snd c1) c2 c2 c2 c2 c3 c3 (aO c3 c3 c4 c4 c4 c4 c5 (aO c5 c5 c5 c6 c6 c6 c6 (aK eF eF eF eF))))
     ·obtain rfl:=Zac h9
      exact af fol hE [.r [],.r [(4,q1 [.agg [L.arr .u64 4 x1],oB x2])],.r [(17,wF),(18,wF),(19,wF),(20,yF),(22,wF),(23,wF),(24,wF),(25,yF),(27,wF),(28,wF),(29,wF),(30,yF)]] [] 0 [] (aO (ZaW.snd c1) c2 c2 c2 c2 c3 c3 (aO c3 c3 c4 c4 c4 c4 c5 (aO c5 c5 c5 eF eF eF eF (aK eF eF eF eF))))
    ·obtain rfl:=Zac h7
     exact af fol hE [.r [],.r [(4,q1 [.agg [L.arr .u64 4 x1],oB x2])],.r [(12,wF),(13,wF),(14,wF),(15,yF),(17,wF),(18,wF),(19,wF),(20,yF),(22,wF),(23,wF),(24,wF),(25,yF),(27,wF),(28,wF),(29,wF),(30,yF)]] [] 0 [] (aO (ZaW.snd c1) c2 c2 c2 c2 c3 c3 (aO c3 c3 c4 c4 c4 c4 eF (aO eF eF eF eF eF eF eF (aK eF eF eF eF))))
   ·obtain rfl:=Zac h5
    exact af fol hE [.r [],.r [(4,q1 [.agg [L.arr .u64 4 x1],oB x2])],.r [(7,wF),(8,wF),(9,wF),(10,yF),(12,wF),(13,wF),(14,wF),(15,yF),(17,wF),(18,wF),(19,wF),(20,yF),(22,wF),(23,wF),(24,wF),(25,yF),(27,wF),(28,wF),(29,wF),(30,yF)]] [] 0 [] (aO (ZaW.snd c1) c2 c2 c2 c2 c3 c3 (aO c3 c3 eF eF eF eF eF (aO eF eF eF eF eF eF eF (aK eF eF eF eF))))
  ·obtain rfl:=Zac h3
   exact af fol hE [.r [],.r [(4,q1 [.agg [L.arr .u64 4 x1],oB x2])],.r [(2,wF),(3,wF),(4,wF),(5,yF),(7,wF),(8,wF),(9,wF),(10,yF),(12,wF),(13,wF),(14,wF),(15,yF),(17,wF),(18,wF),(19,wF),(20,yF),(22,wF),(23,wF),(24,wF),(25,yF),(27,wF),(28,wF),(29,wF),(30,yF)]] [] 0 [] (aO (ZaW.snd c1) c2 c2 c2 c2 eF eF (aO eF eF eF eF eF eF eF (aO eF eF eF eF eF eF eF (aK eF eF eF eF))))
noncomputable def ZbB.B:Code:=Tryz.f52.body.getD .skip
noncomputable def ZbB.rs (r:Bool):List CV:=[oB r]
noncomputable def ZbB.p2 (N:Nat) (p_0:Zaf) (c2_:Int→Option Bool):Int→Option Bool:=fun v6=>
 if (decide (v6<(len p_0.Checks)))=true then
  chk (0≤v6)<|
  getE (p_0.Checks[Int.toNat v6]?) Zdz fun x7=>
  if (decide (x7.Height<1))=true then
   some false
  else
  if (decide (v6>0))=true then
   chk (0≤(w64 (v6-1)))<|
   chk ((w64 (v6-1))<(len p_0.Checks))<|
   getE (p_0.Checks[Int.toNat (w64 (v6-1))]?) Zdz fun x8=>
   if (decide (x7.Height≤x8.Height))=true then
    some false
   else
   c2_ (w64 (v6+1))
  else
  c2_ (w64 (v6+1))
 else
 some true
noncomputable def ZbB.p1 (N:Nat) (p_0:Zaf) (c1_:Int→Option Bool):Int→Option Bool:=fun v3=>
 if (decide (v3<(len p_0.Gates)))=true then
  chk (0≤v3)<|
  getE (p_0.Gates[Int.toNat v3]?) ZdH fun x4=>
  if (decide (x4.Height<0))=true then
   some false
  else
  if (decide (v3>0))=true then
   chk (0≤(w64 (v3-1)))<|
   chk ((w64 (v3-1))<(len p_0.Gates))<|
   getE (p_0.Gates[Int.toNat (w64 (v3-1))]?) ZdH fun x5=>
   if (decide (x4.Height≤x5.Height))=true then
    some false
   else
   c1_ (w64 (v3+1))
  else
  c1_ (w64 (v3+1))
 else
 loopN (ZbB.p2 N p_0) N 0
noncomputable def ZbB (N:Nat) (p_0:Zaf):Option Bool:=
 optE (ZcF N p_0) fun x1=>
 if (!x1)=true then
  some false
 else
 optE (Zbm N p_0.Genesis) fun x2=>
 if (!x2)=true then
  some false
 else
 loopN (ZbB.p1 N p_0) N 0
noncomputable def ZbB.p2.S (p_0:Zaf) (v6:Int) (st:LL):S:=mkS 72 [(1,sA 1),(45,sV 33 p_0.Checks),(46,sI (len p_0.Checks)),(47,sI v6)] [(1,.cells p_0.ls)] st
noncomputable def ZbB.p1.S (p_0:Zaf) (v3:Int) (st:LL):S:=mkS 72 [(1,sA 1),(17,sV 2 p_0.Gates),(18,sI (len p_0.Gates)),(19,sI v3)] [(1,.cells p_0.ls)] st
theorem ZbB.p2_ok {p_0 v6 st r c2_ J2} (h:ZbB.p2 N p_0 c2_ v6=some r) (hE:En Tryz.f52 g0 w0 (ZbB.rs r) st R) (hc2 : ∀v6,c2_ v6=some r→At g0 w0 (ZbB.p2.S p_0 v6 st) J2):At g0 w0 (ZbB.p2.S p_0 v6 st) (XK Tryz.prog R (.c (csub ZbB.B [1,1,1,0,1,0,0]) :: .h J2 :: [.b 2,.c (csub ZbB.B [1,1,1,1])])):=by
 unfold ZbB.p2 at h
 refine iteB h (fun c14 h1=>?_) (fun c14 h2=>?_)
 ·obtain ⟨c15,h3⟩:=ZaY h1
  obtain ⟨x7,c16,h4⟩:=ZdE h3
  refine iteB h4 (fun c17 h5=>?_) (fun c17 h6=>?_)
  ·obtain rfl:=Zac h5
   exact afd fol hE [.r [],.c true,.r [(2,{oe:=x7.ls})],.d {ds:=[(4,wF),(5,wF),(6,wF),(17,wF)],hv:=0,Hs:=[]},.c true,.r []] [] 0 [] (aO c14 c15 (oD c14) c16 c17 c17 c17 (aJ c17 c17 eT))
  ·refine iteB h6 (fun c18 h7=>?_) (fun c18 h8=>?_)
   ·obtain ⟨c19,c20,h9⟩:=ck2 h7
    obtain ⟨x8,c21,h10⟩:=ZdE h9
    refine iteB h10 (fun c22 h11=>?_) (fun c22 h12=>?_)
    ·obtain rfl:=Zac h11
     exact afd fol hE [.r [],.c true,.r [(2,{oe:=x7.ls})],.d {ds:=[(15,{oe:=x8.ls}),(18,yF)],hv:=0,Hs:=[]},.c true,.r []] [] 0 [] (aO c14 c15 (oD c14) c16 c17 c17 c17 (aO c18 c18 c18 c18 c18 c18 c18 (aO c19 c20 c18 c18 c21 c18 c17 (aJ c18 c17 c22))))
    ·exact and_ fol [.r [],.c true,.r [(2,{oe:=x7.ls})],.d {ds:=[(15,{oe:=x8.ls}),(18,yF)],hv:=0,Hs:=[]},.c false,.r []] [1,45,46,47] [1] (aO c14 c15 (oD c14) c16 c17 c17 c17 (aO c18 c18 c18 c18 c18 c18 c18 (aO c19 c20 c18 c18 c21 c18 c17 (aJ c18 c17 c22)))) (hc2 (w64 (v6+1)) h12)
   ·exact and_ fol [.r [],.c true,.r [(2,{oe:=x7.ls})],.d {ds:=[(7,wF),(8,wF),(9,wF),(10,wF),(11,wF),(12,wF),(13,wF),(14,wF),(15,wF),(16,wF),(17,yF),(18,yF)],hv:=0,Hs:=[]},.c false,.r []] [1,45,46,47] [1] (aO c14 c15 (oD c14) c16 c17 c17 c17 (aO c18 c18 c18 c18 c18 c18 c18 (aN c18 c18 c18 c17 c18 c17 eF))) (hc2 (w64 (v6+1)) h8)
 ·obtain rfl:=Zac h2
  exact af fol hE [.r [],.c false,.r []] [] 0 [] c14
theorem ZbB.p1_ok {p_0 v3 st r c1_ J1} (h:ZbB.p1 N p_0 c1_ v3=some r) (hE:En Tryz.f52 g0 w0 (ZbB.rs r) st R) (hc1 : ∀v3,c1_ v3=some r→At g0 w0 (ZbB.p1.S p_0 v3 st) J1):At g0 w0 (ZbB.p1.S p_0 v3 st) (XK Tryz.prog R (.c (csub ZbB.B [1,1,0,1,0,0]) :: .h J1 :: [.b 0,.c (csub ZbB.B [1,1,1])])):=by
 unfold ZbB.p1 at h
 refine iteB h (fun c5 h13=>?_) (fun c5 h14=>?_)
 ·obtain ⟨c6,h15⟩:=ZaY h13
  obtain ⟨x4,c7,h16⟩:=ZdK h15
  refine iteB h16 (fun c8 h17=>?_) (fun c8 h18=>?_)
  ·obtain rfl:=Zac h17
   exact afd fol hE [.r [],.c true,.r [(2,{oe:=x4.ls})],.d {ds:=[(4,wF),(5,wF),(6,wF),(17,wF)],hv:=0,Hs:=[]},.c true,.r []] [] 0 [] (aO c5 c6 (oD c5) c7 c8 c8 c8 (aJ c8 c8 eT))
  ·refine iteB h18 (fun c9 h19=>?_) (fun c9 h20=>?_)
   ·obtain ⟨c10,c11,h21⟩:=ck2 h19
    obtain ⟨x5,c12,h22⟩:=ZdK h21
    refine iteB h22 (fun c13 h23=>?_) (fun c13 h24=>?_)
    ·obtain rfl:=Zac h23
     exact afd fol hE [.r [],.c true,.r [(2,{oe:=x4.ls})],.d {ds:=[(15,{oe:=x5.ls}),(18,yF)],hv:=0,Hs:=[]},.c true,.r []] [] 0 [] (aO c5 c6 (oD c5) c7 c8 c8 c8 (aO c9 c9 c9 c9 c9 c9 c9 (aO c10 c11 c9 c9 c12 c9 c8 (aJ c9 c8 c13))))
    ·exact and_ fol [.r [],.c true,.r [(2,{oe:=x4.ls})],.d {ds:=[(15,{oe:=x5.ls}),(18,yF)],hv:=0,Hs:=[]},.c false,.r []] [1,17,18,19] [1] (aO c5 c6 (oD c5) c7 c8 c8 c8 (aO c9 c9 c9 c9 c9 c9 c9 (aO c10 c11 c9 c9 c12 c9 c8 (aJ c9 c8 c13)))) (hc1 (w64 (v3+1)) h24)
   ·exact and_ fol [.r [],.c true,.r [(2,{oe:=x4.ls})],.d {ds:=[(7,wF),(8,wF),(9,wF),(10,wF),(11,wF),(12,wF),(13,wF),(14,wF),(15,wF),(16,wF),(17,yF),(18,yF)],hv:=0,Hs:=[]},.c false,.r []] [1,17,18,19] [1] (aO c5 c6 (oD c5) c7 c8 c8 c8 (aO c9 c9 c9 c9 c9 c9 c9 (aN c9 c9 c9 c8 c9 c8 eF))) (hc1 (w64 (v3+1)) h20)
 ·exact aq fol [.r [],.c false,.r []] [1,45,46,47] [1] c5 (At.loop N (At.loopN (fun y:Int=>ZbB.p2.S p_0 y st) (fun c J hc y h=>ZbB.p2_ok h hE (fun v6=>hc v6)) N 0 h14))
theorem ZbB.snd {p_0:Zaf} {r:Bool} (h:ZbB N p_0=some r):SndQ Tryz.prog 52 [.agg p_0.ls] (ZbB.rs r):=fun st=>
 sO ZbB.B Tryz.func52 fun g0 w0 R hE=>by
  unfold ZbB at h
  obtain ⟨x1,c1,h25⟩:=Zad h
  refine iteB h25 (fun c2 h26=>?_) (fun c2 h27=>?_)
  ·obtain rfl:=Zac h26
   exact af fol hE [.r [],.r [(1,q1 [oB x1]),(4,wF),(5,wF),(6,wF),(7,wF)],.c true,.r []] [] 0 [] (aN (ZcF.snd c1) (not_false (ZbG c2)) (not_false (ZbG c2)) (not_false (ZbG c2)) (not_false (ZbG c2)) (not_false (ZbG c2)) eT)
  ·obtain ⟨x2,c3,h28⟩:=Zad h27
   refine iteB h28 (fun c4 h29=>?_) (fun c4 h30=>?_)
   ·obtain rfl:=Zac h29
    exact af fol hE [.r [],.r [(1,q1 [oB x1]),(6,q1 [oB x2]),(8,yF)],.c true,.r []] [] 0 [] (aO (ZcF.snd c1) (not_true (ZaF c2)) (not_true (ZaF c2)) (not_true (ZaF c2)) (Zbm.snd c3) (not_true (ZaF c2)) (not_true (ZaF c2)) c4)
   ·exact aq fol [.r [],.r [(1,q1 [oB x1]),(6,q1 [oB x2]),(8,yF)],.c false,.r []] [1,17,18,19] [1] (aO (ZcF.snd c1) (not_true (ZaF c2)) (not_true (ZaF c2)) (not_true (ZaF c2)) (Zbm.snd c3) (not_true (ZaF c2)) (not_true (ZaF c2)) c4) (At.loop N (At.loopN (fun y:Int=>ZbB.p1.S p_0 y st) (fun c J hc y h=>ZbB.p1_ok h hE (fun v3=>hc v3)) N 0 h30))
noncomputable def Zbn.B:Code:=Tryz.f112.body.getD .skip
noncomputable def Zbn.rs (r:(List Int)×Bool):List CV:=[.agg [L.arr .u64 4 r.1],oB r.2]
noncomputable def Zbn.p1 (N:Nat) (b_1_0:List Int) (c1_:(Int×Int×(List Int))→Option ((List Int)×Bool)):(Int×Int×(List Int))→Option ((List Int)×Bool):=fun (c_1,v2,a_5)=>
 if (decide (v2<4))=true then
  chk (0≤v2)<|
  optE (Zdn N (List.getD a_5 (Int.toNat v2) 0) (List.getD b_1_0 (Int.toNat v2) 0) c_1) fun (x6,x7)=>
  c1_ (x7,w64 (v2+1),List.set a_5 (Int.toNat v2) x6)
 else
 some (a_5,c_1 != 0)
noncomputable def Zbn (N:Nat) (a_0_0 b_1_0:List Int):Option ((List Int)×Bool):=
 loopN (Zbn.p1 N b_1_0) N (0,0,a_0_0)
noncomputable def Zbn.p1.S (c_1 v2:Int) (a_5 b_1_0:List Int) (st:LL):S:=mkS 28 [(2,sA 2),(3,sA 3),(4,sA 4),(6,.one (.l (L.int .u64 c_1))),(8,sI v2)] [(2,.cells [L.arr .u64 4 a_5]),(3,.cells [L.arr .u64 4 b_1_0]),(4,.cells [L.arr .u64 4 (List.replicate 4 0)])] st
theorem Zbn.p1_ok {c_1 v2 a_5 b_1_0 st r c1_ J1} (h:Zbn.p1 N b_1_0 c1_ (c_1,v2,a_5)=some r) (hE:En Tryz.f112 g0 w0 (Zbn.rs r) st R) (hc1 : ∀c_1 v2 a_5,c1_ (c_1,v2,a_5)=some r→At g0 w0 (Zbn.p1.S c_1 v2 a_5 b_1_0 st) J1):At g0 w0 (Zbn.p1.S c_1 v2 a_5 b_1_0 st) (XK Tryz.prog R (.c (csub Zbn.B [1,1,0,1,0,0]) :: .h J1 :: [.b 0,.c (csub Zbn.B [1,1,1])])):=by
 unfold Zbn.p1 at h
 refine iteB h (fun c4 h1=>?_) (fun c4 h2=>?_)
 ·obtain ⟨c5,h3⟩:=ZaY h1
  obtain ⟨⟨x6,x7⟩,c6,h4⟩:=Zad h3
  exact and_ fol [.r [],.c true,.r [],.d {ds:=[(8,{rs:=[.one (L.int .u64 x6),.one (L.int .u64 x7)],m:=4})],hv:=8192,Hs:=[8192]},.r []] [2,3,4,6,8] [2,3,4] (aO c4 c5 (oD c4) c5 (oD c4) (Zdn.snd c6) c5 (oD c4)) (hc1 x7 (w64 (v2+1)) (List.set a_5 (Int.toNat v2) x6) h4)
 ·obtain rfl:=Zac h2
  exact af fol hE [.r [],.c false,.r []] [] 0 [] c4
theorem Zbn.snd {a_0_0 b_1_0:List Int} {r:(List Int)×Bool} (h:Zbn N a_0_0 b_1_0=some r):SndQ Tryz.prog 112 [.agg [L.arr .u64 4 a_0_0],.agg [L.arr .u64 4 b_1_0]] (Zbn.rs r):=fun st=>
 sO Zbn.B Tryz.func112 fun g0 w0 R hE=>by
  unfold Zbn at h
  exact aq fol [.r [],.r [],.r []] [2,3,4,6,8] [2,3,4] trivial (At.loop N (At.loopN (fun y:Int×Int×(List Int)=>Zbn.p1.S y.1 y.2.1 y.2.2 b_1_0 st) (fun c J hc y h=>Zbn.p1_ok (c_1:=y.1) (v2:=y.2.1) (a_5:=y.2.2) h hE (fun c_1 v2 a_5=>hc (c_1,v2,a_5))) N (0,0,a_0_0) h))
noncomputable def ZbN.B:Code:=Tryz.f151.body.getD .skip
noncomputable def ZbN.rs (r:(List Int)):List CV:=[.agg [L.arr .u64 4 r]]
noncomputable def ZbN.p1 (N:Nat) (c1_:(Int×(List Int))→Option (List Int)):(Int×(List Int))→Option (List Int):=fun (v1,a_2)=>
 if (decide (v1<4))=true then
  chk (0≤v1)<|
  c1_ (w64 (v1+1),List.set a_2 (Int.toNat v1) (bitsOf .xor .u64 (IntKind.max IntKind.u64) (List.getD a_2 (Int.toNat v1) 0)))
 else
 some a_2
noncomputable def ZbN (N:Nat) (a_0_0:List Int):Option (List Int):=
 loopN (ZbN.p1 N) N (0,a_0_0)
noncomputable def ZbN.p1.S (v1:Int) (a_2:List Int) (st:LL):S:=mkS 15 [(1,sA 1),(2,sA 2),(4,sI v1)] [(1,.cells [L.arr .u64 4 a_2]),(2,.cells [L.arr .u64 4 (List.replicate 4 0)])] st
theorem ZbN.p1_ok {v1 a_2 st r c1_ J1} (h:ZbN.p1 N c1_ (v1,a_2)=some r) (hE:En Tryz.f151 g0 w0 (ZbN.rs r) st R) (hc1 : ∀v1 a_2,c1_ (v1,a_2)=some r→At g0 w0 (ZbN.p1.S v1 a_2 st) J1):At g0 w0 (ZbN.p1.S v1 a_2 st) (XK Tryz.prog R (.c (csub ZbN.B [1,0,1,0,0]) :: .h J1 :: [.b 0,.c (csub ZbN.B [1,1])])):=by
 unfold ZbN.p1 at h
 refine iteB h (fun c3 h1=>?_) (fun c3 h2=>?_)
 ·obtain ⟨c4,h3⟩:=ZaY h1
  exact an fol [.r [],.c true,.r [],.r [],.r []] [1,2,4] [1,2] (aL c3 c4 (oD c3) c4 (oD c3)) (hc1 (w64 (v1+1)) (List.set a_2 (Int.toNat v1) (bitsOf .xor .u64 (IntKind.max IntKind.u64) (List.getD a_2 (Int.toNat v1) 0))) h3)
 ·obtain rfl:=Zac h2
  exact af fol hE [.r [],.c false,.r []] [] 0 [] c3
theorem ZbN.snd {a_0_0:List Int} {r:(List Int)} (h:ZbN N a_0_0=some r):SndQ Tryz.prog 151 [.agg [L.arr .u64 4 a_0_0]] (ZbN.rs r):=fun st=>
 sO ZbN.B Tryz.func151 fun g0 w0 R hE=>by
  unfold ZbN at h
  exact aq fol [.r [],.r []] [1,2,4] [1,2] trivial (At.loop N (At.loopN (fun y:Int×(List Int)=>ZbN.p1.S y.1 y.2 st) (fun c J hc y h=>ZbN.p1_ok (v1:=y.1) (a_2:=y.2) h hE (fun v1 a_2=>hc (v1,a_2))) N (0,a_0_0) h))
noncomputable def Zax.B:Code:=Tryz.f153.body.getD .skip
noncomputable def Zax.rs (r:Int):List CV:=[oI r]
noncomputable def Zax.p3 (N:Nat) (x_5 n_6:Int):Option Int:=
 chk (0≤(v8 (x_5)))<|
 chk ((v8 (x_5))<((ByteArray.size (ByteArray.mk #[0,1,2,2,3,3,3,3,4,4,4,4,4,4,4,4,5,5,5,5,5,5,5,5,5,5,5,5,5,5,5,5,6,6,6,6,6,6,6,6,6,6,6,6,6,6,6,6,6,6,6,6,6,6,6,6,6,6,6,6,6,6,6,6,7,7,7,7,7,7,7,7,7,7,7,7,7,7,7,7,7,7,7,7,7,7,7,7,7,7,7,7,7,7,7,7,7,7,7,7,7,7,7,7,7,7,7,7,7,7,7,7,7,7,7,7,7,7,7,7,7,7,7,7,7,7,7,7,8,8,8,8,8,8,8,8,8,8,8,8,8,8,8,8,8,8,8,8,8,8,8,8,8,8,8,8,8,8,8,8,8,8,8,8,8,8,8,8,8,8,8,8,8,8,8,8,8,8,8,8,8,8,8,8,8,8,8,8,8,8,8,8,8,8,8,8,8,8,8,8,8,8,8,8,8,8,8,8,8,8,8,8,8,8,8,8,8,8,8,8,8,8,8,8,8,8,8,8,8,8,8,8,8,8,8,8,8,8,8,8,8,8,8,8,8,8,8,8,8,8,8,8,8,8,8,8]):Nat):Int))<|
 some (w64 (n_6+(w64 (((UInt8.toNat (List.getD (Array.toList (ByteArray.data (ByteArray.mk #[0,1,2,2,3,3,3,3,4,4,4,4,4,4,4,4,5,5,5,5,5,5,5,5,5,5,5,5,5,5,5,5,6,6,6,6,6,6,6,6,6,6,6,6,6,6,6,6,6,6,6,6,6,6,6,6,6,6,6,6,6,6,6,6,7,7,7,7,7,7,7,7,7,7,7,7,7,7,7,7,7,7,7,7,7,7,7,7,7,7,7,7,7,7,7,7,7,7,7,7,7,7,7,7,7,7,7,7,7,7,7,7,7,7,7,7,7,7,7,7,7,7,7,7,7,7,7,7,8,8,8,8,8,8,8,8,8,8,8,8,8,8,8,8,8,8,8,8,8,8,8,8,8,8,8,8,8,8,8,8,8,8,8,8,8,8,8,8,8,8,8,8,8,8,8,8,8,8,8,8,8,8,8,8,8,8,8,8,8,8,8,8,8,8,8,8,8,8,8,8,8,8,8,8,8,8,8,8,8,8,8,8,8,8,8,8,8,8,8,8,8,8,8,8,8,8,8,8,8,8,8,8,8,8,8,8,8,8,8,8,8,8,8,8,8,8,8,8,8,8,8,8,8,8,8,8]))) (Int.toNat (v8 (x_5))) 0):Nat):Int)))))
noncomputable def Zax.p2 (N:Nat) (x_3 n_4:Int):Option Int:=
 if (decide (x_3≥256))=true then
  Zax.p3 N (shrOf .u64 x_3 8) (w64 (n_4+8))
 else
 Zax.p3 N x_3 n_4
noncomputable def Zax.p1 (N:Nat) (x_1 n_2:Int):Option Int:=
 if (decide (x_1≥65536))=true then
  Zax.p2 N (shrOf .u64 x_1 16) (w64 (n_2+16))
 else
 Zax.p2 N x_1 n_2
noncomputable def Zax (N:Nat) (x_0:Int):Option Int:=
 if (decide (x_0≥4294967296))=true then
  Zax.p1 N (shrOf .u64 x_0 32) 32
 else
 Zax.p1 N x_0 0
noncomputable def Zax.p3.S (x_5 n_6:Int) (st:LL):S:=mkS 25 [(0,.one (.l (L.int .u64 x_5))),(2,sI n_6)] [] st
noncomputable def Zax.p2.S (x_3 n_4:Int) (st:LL):S:=mkS 25 [(0,.one (.l (L.int .u64 x_3))),(2,sI n_4)] [] st
noncomputable def Zax.p1.S (x_1 n_2:Int) (st:LL):S:=mkS 25 [(0,.one (.l (L.int .u64 x_1))),(2,sI n_2)] [] st
theorem Zax.p3_ok {x_5 n_6 st r} (h:Zax.p3 N x_5 n_6=some r) (hE:En Tryz.f153 g0 w0 (Zax.rs r) st R):At g0 w0 (Zax.p3.S x_5 n_6 st) (XK Tryz.prog R [.c (csub Zax.B [1,1,1,1])]):=by
 unfold Zax.p3 at h
 obtain ⟨c4,c5,h1⟩:=ck2 h
 obtain rfl:=Zac h1
 exact af fol hE [.r []] [] 0 [] (aI c4 c5)
theorem Zax.p2_ok {x_3 n_4 st r} (h:Zax.p2 N x_3 n_4=some r) (hE:En Tryz.f153 g0 w0 (Zax.rs r) st R):At g0 w0 (Zax.p2.S x_3 n_4 st) (XK Tryz.prog R [.c (csub Zax.B [1,1,1])]):=by
 unfold Zax.p2 at h
 refine iteB h (fun c3 h2=>?_) (fun c3 h3=>?_)
 ·exact aq fol [.r [],.c true,.r [],.r [],.s 1] [0,2] [] (aI c3 (leI 0 8)) (Zax.p3_ok h2 hE)
 ·exact aq fol [.r [],.c false,.s 1] [0,2] [] c3 (Zax.p3_ok h3 hE)
theorem Zax.p1_ok {x_1 n_2 st r} (h:Zax.p1 N x_1 n_2=some r) (hE:En Tryz.f153 g0 w0 (Zax.rs r) st R):At g0 w0 (Zax.p1.S x_1 n_2 st) (XK Tryz.prog R [.c (csub Zax.B [1,1])]):=by
 unfold Zax.p1 at h
 refine iteB h (fun c2 h4=>?_) (fun c2 h5=>?_)
 ·exact aq fol [.r [],.c true,.r [],.r [],.s 1] [0,2] [] (aI c2 (leI 0 16)) (Zax.p2_ok h4 hE)
 ·exact aq fol [.r [],.c false,.s 1] [0,2] [] c2 (Zax.p2_ok h5 hE)
theorem Zax.snd {x_0:Int} {r:Int} (h:Zax N x_0=some r):SndQ Tryz.prog 153 [.one (L.int .u64 x_0)] (Zax.rs r):=fun st=>
 sO Zax.B Tryz.func153 fun g0 w0 R hE=>by
  unfold Zax at h
  refine iteB h (fun c1 h6=>?_) (fun c1 h7=>?_)
  ·exact aq fol [.r [],.r [],.c true,.r [],.r [],.s 1] [0,2] [] (aI c1 (leI 0 32)) (Zax.p1_ok h6 hE)
  ·exact aq fol [.r [],.r [],.c false,.s 1] [0,2] [] c1 (Zax.p1_ok h7 hE)
noncomputable def Zcc.B:Code:=Tryz.f138.body.getD .skip
noncomputable def Zcc.rs (r:Int):List CV:=[oI r]
noncomputable def Zcc.p1 (N:Nat) (a_0_0:List Int) (c1_:Int→Option Int):Int→Option Int:=fun i_1=>
 if (decide (i_1≥0))=true then
  chk (0≤i_1)<|
  chk (i_1<4)<|
  if ((List.getD a_0_0 (Int.toNat i_1) 0) != 0)=true then
   optE (Zax N (List.getD a_0_0 (Int.toNat i_1) 0)) fun x2=>
   some (w64 ((w64 (64*i_1))+x2))
  else
  c1_ (w64 (i_1-1))
 else
 some 0
noncomputable def Zcc (N:Nat) (a_0_0:List Int):Option Int:=
 loopN (Zcc.p1 N a_0_0) N 3
noncomputable def Zcc.p1.S (i_1:Int) (a_0_0:List Int) (st:LL):S:=mkS 19 [(1,sA 1),(3,sI i_1)] [(1,.cells [L.arr .u64 4 a_0_0])] st
theorem Zcc.p1_ok {i_1 a_0_0 st r c1_ J1} (h:Zcc.p1 N a_0_0 c1_ i_1=some r) (hE:En Tryz.f138 g0 w0 (Zcc.rs r) st R) (hc1 : ∀i_1,c1_ i_1=some r→At g0 w0 (Zcc.p1.S i_1 a_0_0 st) J1):At g0 w0 (Zcc.p1.S i_1 a_0_0 st) (XK Tryz.prog R (.c (csub Zcc.B [1,0,1,0,0]) :: .h J1 :: [.b 0,.c (csub Zcc.B [1,1])])):=by
 unfold Zcc.p1 at h
 refine iteB h (fun c1 h1=>?_) (fun c1 h2=>?_)
 ·obtain ⟨c2,c3,h3⟩:=ck2 h1
  refine iteB h3 (fun c4 h4=>?_) (fun c4 h5=>?_)
  ·obtain ⟨x2,c5,h6⟩:=Zad h4
   obtain rfl:=Zac h6
   exact af fol hE [.r [],.c true,.r [],.c true,.r [(5,q1 [oI x2])]] [] 0 [] (aN c1 c2 c3 c4 c2 c3 (Zax.snd c5))
  ·exact an fol [.r [],.c true,.r [],.c false,.r []] [1,3] [1] (aK c1 c2 c3 c4) (hc1 (w64 (i_1-1)) h5)
 ·obtain rfl:=Zac h2
  exact af fol hE [.r [],.c false,.r []] [] 0 [] c1
theorem Zcc.snd {a_0_0:List Int} {r:Int} (h:Zcc N a_0_0=some r):SndQ Tryz.prog 138 [.agg [L.arr .u64 4 a_0_0]] (Zcc.rs r):=fun st=>
 sO Zcc.B Tryz.func138 fun g0 w0 R hE=>by
  unfold Zcc at h
  exact aq fol [.r [],.r []] [1,3] [1] trivial (At.loop N (At.loopN (fun y:Int=>Zcc.p1.S y a_0_0 st) (fun c J hc y h=>Zcc.p1_ok h hE (fun i_1=>hc i_1)) N 3 h))
noncomputable def Zcf.B:Code:=Tryz.f165.body.getD .skip
noncomputable def Zcf.rs (r:(List Int)×Bool):List CV:=[.agg [L.arr .u64 4 r.1],oB r.2]
noncomputable def Zcf.p1 (N:Nat) (b_1_0:List Int) (c1_:(Int×Int×(List Int))→Option ((List Int)×Bool)):(Int×Int×(List Int))→Option ((List Int)×Bool):=fun (c_1,v2,a_5)=>
 if (decide (v2<4))=true then
  chk (0≤v2)<|
  optE (Zeb N (List.getD a_5 (Int.toNat v2) 0) (List.getD b_1_0 (Int.toNat v2) 0) c_1) fun (x6,x7)=>
  c1_ (x7,w64 (v2+1),List.set a_5 (Int.toNat v2) x6)
 else
 some (a_5,c_1 != 0)
noncomputable def Zcf (N:Nat) (a_0_0 b_1_0:List Int):Option ((List Int)×Bool):=
 loopN (Zcf.p1 N b_1_0) N (0,0,a_0_0)
noncomputable def Zcf.p1.S (c_1 v2:Int) (a_5 b_1_0:List Int) (st:LL):S:=mkS 28 [(2,sA 2),(3,sA 3),(4,sA 4),(6,.one (.l (L.int .u64 c_1))),(8,sI v2)] [(2,.cells [L.arr .u64 4 a_5]),(3,.cells [L.arr .u64 4 b_1_0]),(4,.cells [L.arr .u64 4 (List.replicate 4 0)])] st
theorem Zcf.p1_ok {c_1 v2 a_5 b_1_0 st r c1_ J1} (h:Zcf.p1 N b_1_0 c1_ (c_1,v2,a_5)=some r) (hE:En Tryz.f165 g0 w0 (Zcf.rs r) st R) (hc1 : ∀c_1 v2 a_5,c1_ (c_1,v2,a_5)=some r→At g0 w0 (Zcf.p1.S c_1 v2 a_5 b_1_0 st) J1):At g0 w0 (Zcf.p1.S c_1 v2 a_5 b_1_0 st) (XK Tryz.prog R (.c (csub Zcf.B [1,1,0,1,0,0]) :: .h J1 :: [.b 0,.c (csub Zcf.B [1,1,1])])):=by
 unfold Zcf.p1 at h
 refine iteB h (fun c4 h1=>?_) (fun c4 h2=>?_)
 ·obtain ⟨c5,h3⟩:=ZaY h1
  obtain ⟨⟨x6,x7⟩,c6,h4⟩:=Zad h3
  exact and_ fol [.r [],.c true,.r [],.d {ds:=[(8,{rs:=[.one (L.int .u64 x6),.one (L.int .u64 x7)],m:=4})],hv:=8192,Hs:=[8192]},.r []] [2,3,4,6,8] [2,3,4] (aO c4 c5 (oD c4) c5 (oD c4) (Zeb.snd c6) c5 (oD c4)) (hc1 x7 (w64 (v2+1)) (List.set a_5 (Int.toNat v2) x6) h4)
 ·obtain rfl:=Zac h2
  exact af fol hE [.r [],.c false,.r []] [] 0 [] c4
theorem Zcf.snd {a_0_0 b_1_0:List Int} {r:(List Int)×Bool} (h:Zcf N a_0_0 b_1_0=some r):SndQ Tryz.prog 165 [.agg [L.arr .u64 4 a_0_0],.agg [L.arr .u64 4 b_1_0]] (Zcf.rs r):=fun st=>
 sO Zcf.B Tryz.func165 fun g0 w0 R hE=>by
  unfold Zcf at h
  exact aq fol [.r [],.r [],.r []] [2,3,4,6,8] [2,3,4] trivial (At.loop N (At.loopN (fun y:Int×Int×(List Int)=>Zcf.p1.S y.1 y.2.1 y.2.2 b_1_0 st) (fun c J hc y h=>Zcf.p1_ok (c_1:=y.1) (v2:=y.2.1) (a_5:=y.2.2) h hE (fun c_1 v2 a_5=>hc (c_1,v2,a_5))) N (0,0,a_0_0) h))
noncomputable def Zbk.B:Code:=Tryz.f150.body.getD .skip
noncomputable def Zbk.rs (r:(List Int)×(List Int)):List CV:=[.agg [L.arr .u64 4 r.1],.agg [L.arr .u64 4 r.2]]
noncomputable def Zbk.p2 (N:Nat) (c1_:(Int×(List Int)×(List Int))→Option ((List Int)×(List Int))) (i_3:Int) (a_0_0 by_1_0 out_21 rest_20:List Int):Option ((List Int)×(List Int)):=
 c1_ (w64 (i_3-1),out_21,rest_20)
noncomputable def Zbk.p1 (N:Nat) (a_0_0 by_1_0:List Int) (c1_:(Int×(List Int)×(List Int))→Option ((List Int)×(List Int))):(Int×(List Int)×(List Int))→Option ((List Int)×(List Int)):=fun (i_3,out_12,rest_13)=>
 if (decide (i_3≥0))=true then
  optE (Zbu N rest_13 1) fun x14=>
  chk (0≤(w64 (Int.tdiv i_3 64)))<|
  chk ((w64 (Int.tdiv i_3 64))<4)<|
  chk (0≤(Int.tmod i_3 64))<|
  if ((shrOf .u64 (List.getD rest_13 3 0) 63)==1)=true then
   optE (Zcf N (List.set x14 0 (bitsOf .or .u64 (List.getD x14 0 0) (bitsOf .and .u64 (shrOf .u64 (List.getD a_0_0 (Int.toNat (w64 (Int.tdiv i_3 64))) 0) (Int.tmod i_3 64)) 1))) by_1_0) fun (x15,x16)=>
   Zbk.p2 N c1_ i_3 a_0_0 by_1_0 (List.set out_12 (Int.toNat (w64 (Int.tdiv i_3 64))) (bitsOf .or .u64 (List.getD out_12 (Int.toNat (w64 (Int.tdiv i_3 64))) 0) (shlOf .u64 1 (Int.tmod i_3 64)))) x15
  else
  optE (Zct N (List.set x14 0 (bitsOf .or .u64 (List.getD x14 0 0) (bitsOf .and .u64 (shrOf .u64 (List.getD a_0_0 (Int.toNat (w64 (Int.tdiv i_3 64))) 0) (Int.tmod i_3 64)) 1))) by_1_0) fun x17=>
  if (!x17)=true then
   optE (Zcf N (List.set x14 0 (bitsOf .or .u64 (List.getD x14 0 0) (bitsOf .and .u64 (shrOf .u64 (List.getD a_0_0 (Int.toNat (w64 (Int.tdiv i_3 64))) 0) (Int.tmod i_3 64)) 1))) by_1_0) fun (x18,x19)=>
   Zbk.p2 N c1_ i_3 a_0_0 by_1_0 (List.set out_12 (Int.toNat (w64 (Int.tdiv i_3 64))) (bitsOf .or .u64 (List.getD out_12 (Int.toNat (w64 (Int.tdiv i_3 64))) 0) (shlOf .u64 1 (Int.tmod i_3 64)))) x18
  else
  Zbk.p2 N c1_ i_3 a_0_0 by_1_0 out_12 (List.set x14 0 (bitsOf .or .u64 (List.getD x14 0 0) (bitsOf .and .u64 (shrOf .u64 (List.getD a_0_0 (Int.toNat (w64 (Int.tdiv i_3 64))) 0) (Int.tmod i_3 64)) 1)))
 else
 some (out_12,rest_13)
noncomputable def Zbk (N:Nat) (a_0_0 by_1_0:List Int):Option ((List Int)×(List Int)):=
 optE (Zcq N by_1_0) fun x1=>
 if x1=true then
  some (List.replicate 4 0,List.replicate 4 0)
 else
 optE (Zcc N a_0_0) fun x2=>
 loopN (Zbk.p1 N a_0_0 by_1_0) N (w64 (x2-1),List.replicate 4 0,List.replicate 4 0)
noncomputable def Zbk.p2.S (i_3:Int) (a_0_0 by_1_0 out_21 rest_20:List Int) (st:LL):S:=mkS 63 [(2,sA 2),(3,sA 3),(4,sA 4),(5,sA 5),(6,sA 6),(7,sA 7),(8,sI i_3)] [(2,.cells [L.arr .u64 4 a_0_0]),(3,.cells [L.arr .u64 4 by_1_0]),(4,.cells [L.arr .u64 4 (List.replicate 4 0)]),(5,.cells [L.arr .u64 4 (List.replicate 4 0)]),(6,.cells [L.arr .u64 4 out_21]),(7,.cells [L.arr .u64 4 rest_20])] st
noncomputable def Zbk.p1.S (i_3:Int) (a_0_0 by_1_0 out_12 rest_13:List Int) (st:LL):S:=mkS 63 [(2,sA 2),(3,sA 3),(4,sA 4),(5,sA 5),(6,sA 6),(7,sA 7),(8,sI i_3)] [(2,.cells [L.arr .u64 4 a_0_0]),(3,.cells [L.arr .u64 4 by_1_0]),(4,.cells [L.arr .u64 4 (List.replicate 4 0)]),(5,.cells [L.arr .u64 4 (List.replicate 4 0)]),(6,.cells [L.arr .u64 4 out_12]),(7,.cells [L.arr .u64 4 rest_13])] st
theorem Zbk.p2_ok {i_3 a_0_0 by_1_0 out_21 rest_20 st r c1_ J1} (h:Zbk.p2 N c1_ i_3 a_0_0 by_1_0 out_21 rest_20=some r) (hE:En Tryz.f150 g0 w0 (Zbk.rs r) st R) (hc1 : ∀i_3 out_12 rest_13,c1_ (i_3,out_12,rest_13)=some r→At g0 w0 (Zbk.p1.S i_3 a_0_0 by_1_0 out_12 rest_13 st) J1):At g0 w0 (Zbk.p2.S i_3 a_0_0 by_1_0 out_21 rest_20 st) (XK Tryz.prog R [.c (csub Zbk.B [1,1,1,0,1,0,0,1,1]),.h J1,.b 0,.c (csub Zbk.B [1,1,1,1])]):=by
 unfold Zbk.p2 at h
 exact an fol [.r []] [2,3,4,5,6,7,8] [2,3,4,5,6,7] trivial (hc1 (w64 (i_3-1)) out_21 rest_20 h)
theorem Zbk.p1_ok {i_3 a_0_0 by_1_0 out_12 rest_13 st r c1_ J1} (h:Zbk.p1 N a_0_0 by_1_0 c1_ (i_3,out_12,rest_13)=some r) (hE:En Tryz.f150 g0 w0 (Zbk.rs r) st R) (hc1 : ∀i_3 out_12 rest_13,c1_ (i_3,out_12,rest_13)=some r→At g0 w0 (Zbk.p1.S i_3 a_0_0 by_1_0 out_12 rest_13 st) J1):At g0 w0 (Zbk.p1.S i_3 a_0_0 by_1_0 out_12 rest_13 st) (XK Tryz.prog R (.c (csub Zbk.B [1,1,1,0,1,0,0]) :: .h J1 :: [.b 0,.c (csub Zbk.B [1,1,1,1])])):=by
 unfold Zbk.p1 at h
 refine iteB h (fun c14 h1=>?_) (fun c14 h2=>?_)
 ·obtain ⟨x14,c15,h3⟩:=Zad h1
  obtain ⟨c16,c17,c18,h4⟩:=ck3 h3
  refine iteB h4 (fun c19 h5=>?_) (fun c19 h6=>?_)
  ·obtain ⟨⟨x15,x16⟩,c20,h7⟩:=Zad h5
   exact aqd fol [.r [],.c true,.r [],.r [(1,q1 [.agg [L.arr .u64 4 x14]])],.d {ds:=[],hv:=4096,Hs:=[4096]},.r [(2,wF),(3,wF),(4,wF),(5,wF)],.c true,.r [(2,q1 [.agg [L.arr .u64 4 x15],oB x16])],.d {ds:=[],hv:=512,Hs:=[512]},.s 4] [2,3,4,5,6,7,8] [2,3,4,5,6,7] (aI c14 (ix 3 4 (aJ (leI 0 63) (Zbu.snd c15) (ix 0 4 (aM (neI 64) c16 c17 (neI 64) c18 (ix 0 4 (aO c19 c19 c19 c19 c19 eT (Zcf.snd c20) (aN (neI 64) c16 c17 (neI 64) c18 c16 c17)))))))) (Zbk.p2_ok h7 hE hc1)
  ·obtain ⟨x17,c21,h8⟩:=Zad h6
   refine iteB h8 (fun c22 h9=>?_) (fun c22 h10=>?_)
   ·obtain ⟨⟨x18,x19⟩,c23,h11⟩:=Zad h9
    exact aqd fol [.r [],.c true,.r [],.r [(1,q1 [.agg [L.arr .u64 4 x14]])],.d {ds:=[],hv:=4096,Hs:=[4096]},.r [(4,q1 [oB x17]),(6,yF)],.c true,.r [(2,q1 [.agg [L.arr .u64 4 x18],oB x19])],.d {ds:=[],hv:=512,Hs:=[512]},.s 4] [2,3,4,5,6,7,8] [2,3,4,5,6,7] (aI c14 (ix 3 4 (aJ (leI 0 63) (Zbu.snd c15) (ix 0 4 (aM (neI 64) c16 c17 (neI 64) c18 (ix 0 4 (aO c19 c19 c19 (Zct.snd c21) c19 c19 c22 (aO (Zcf.snd c23) (neI 64) c16 c17 (neI 64) c18 c16 c17)))))))) (Zbk.p2_ok h11 hE hc1)
   ·exact aqd fol [.r [],.c true,.r [],.r [(1,q1 [.agg [L.arr .u64 4 x14]])],.d {ds:=[],hv:=4096,Hs:=[4096]},.r [(4,q1 [oB x17]),(6,yF)],.c false,.s 4] [2,3,4,5,6,7,8] [2,3,4,5,6,7] (aI c14 (ix 3 4 (aJ (leI 0 63) (Zbu.snd c15) (ix 0 4 (aM (neI 64) c16 c17 (neI 64) c18 (ix 0 4 (aN c19 c19 c19 (Zct.snd c21) c19 c19 c22))))))) (Zbk.p2_ok h10 hE hc1)
 ·obtain rfl:=Zac h2
  exact afd fol hE [.r [],.c false,.d {ds:=[],hv:=12,Hs:=[4,12]}] [] 0 [] c14
theorem Zbk.snd {a_0_0 by_1_0:List Int} {r:(List Int)×(List Int)} (h:Zbk N a_0_0 by_1_0=some r):SndQ Tryz.prog 150 [.agg [L.arr .u64 4 a_0_0],.agg [L.arr .u64 4 by_1_0]] (Zbk.rs r):=fun st=>
 sO Zbk.B Tryz.func150 fun g0 w0 R hE=>by
  unfold Zbk at h
  obtain ⟨x1,c1,h12⟩:=Zad h
  refine iteB h12 (fun c2 h13=>?_) (fun c2 h14=>?_)
  ·obtain rfl:=Zac h13
   exact afd fol hE [.r [],.r [],.r [(1,q1 [oB x1])],.c true,.d {ds:=[],hv:=12,Hs:=[4,12]}] [] 0 [] (aI (Zcq.snd c1) c2)
  ·obtain ⟨x2,c3,h15⟩:=Zad h14
   exact aq fol [.r [],.r [],.r [(1,q1 [oB x1])],.c false,.r [(1,q1 [oI x2])]] [2,3,4,5,6,7,8] [2,3,4,5,6,7] (aJ (Zcq.snd c1) c2 (Zcc.snd c3)) (At.loop N (At.loopN (fun y:Int×(List Int)×(List Int)=>Zbk.p1.S y.1 a_0_0 by_1_0 y.2.1 y.2.2 st) (fun c J hc y h=>Zbk.p1_ok (i_3:=y.1) (out_12:=y.2.1) (rest_13:=y.2.2) h hE (fun i_3 out_12 rest_13=>hc (i_3,out_12,rest_13))) N (w64 (x2-1),List.replicate 4 0,List.replicate 4 0) h15))
noncomputable def Zdl.B:Code:=Tryz.f128.body.getD .skip
noncomputable def Zdl.rs (r:(List Int)):List CV:=[.agg [L.arr .u64 4 r]]
noncomputable def Zdl (N:Nat):Option (List Int):=
 optE (ZbN N (List.replicate 4 0)) fun x1=>
 some x1
theorem Zdl.snd {r:(List Int)} (h:Zdl N=some r):SndQ Tryz.prog 128 [] (Zdl.rs r):=fun st=>
 sO Zdl.B Tryz.func128 fun g0 w0 R hE=>by
  unfold Zdl at h
  obtain ⟨x1,c1,h1⟩:=Zad h
  obtain rfl:=Zac h1
  exact af fol hE [.r [],.r [(1,q1 [.agg [L.arr .u64 4 x1]])]] [] 0 [] (ZbN.snd c1)
noncomputable def ZeJ.B:Code:=Tryz.f126.body.getD .skip
noncomputable def ZeJ.rs (r:(List Int)):List CV:=[.agg [L.arr .u64 4 r]]
noncomputable def ZeJ (N:Nat) (target_0_0:List Int):Option (List Int):=
 optE (Zci N 1) fun x1=>
 optE (Zbn N target_0_0 x1) fun (x2,x3)=>
 if x3=true then
  some x1
 else
 optE (ZbN N target_0_0) fun x4=>
 optE (Zbk N x4 x2) fun (x5,x6)=>
 optE (Zbn N x5 x1) fun (x7,x8)=>
 if x8=true then
  optE (Zdl N ) fun x9=>
  some x9
 else
 some x7
theorem ZeJ.snd {target_0_0:List Int} {r:(List Int)} (h:ZeJ N target_0_0=some r):SndQ Tryz.prog 126 [.agg [L.arr .u64 4 target_0_0]] (ZeJ.rs r):=fun st=>
 sO ZeJ.B Tryz.func126 fun g0 w0 R hE=>by
  unfold ZeJ at h
  obtain ⟨x1,c1,h1⟩:=Zad h
  obtain ⟨⟨x2,x3⟩,c2,h2⟩:=Zad h1
  refine iteB h2 (fun c3 h3=>?_) (fun c3 h4=>?_)
  ·obtain rfl:=Zac h3
   exact afd fol hE [.r [],.d {ds:=[(1,q1 [.agg [L.arr .u64 4 x1]]),(2,q1 [.agg [L.arr .u64 4 x2],oB x3])],hv:=192,Hs:=[64,192]},.r [],.c true,.r [(0,q1 [.agg [L.arr .u64 4 x1]])]] [] 0 [] (aM (Zci.snd c1) (Zci.snd c1) (Zbn.snd c2) (Zbn.snd c2) c3 (Zci.snd c1))
  ·obtain ⟨x4,c4,h5⟩:=Zad h4
   obtain ⟨⟨x5,x6⟩,c5,h6⟩:=Zad h5
   obtain ⟨⟨x7,x8⟩,c6,h7⟩:=Zad h6
   refine iteB h7 (fun c7 h8=>?_) (fun c7 h9=>?_)
   ·obtain ⟨x9,c8,h10⟩:=Zad h8
    obtain rfl:=Zac h10
    exact afd fol hE [.r [],.d {ds:=[(1,q1 [.agg [L.arr .u64 4 x1]]),(2,q1 [.agg [L.arr .u64 4 x2],oB x3])],hv:=192,Hs:=[64,192]},.r [],.c false,.d {ds:=[(1,q1 [.agg [L.arr .u64 4 x4]]),(3,q1 [.agg [L.arr .u64 4 x5],.agg [L.arr .u64 4 x6]])],hv:=1920,Hs:=[128,256,384,896,1920]},.d {ds:=[(1,q1 [.agg [L.arr .u64 4 x1]]),(2,q1 [.agg [L.arr .u64 4 x7],oB x8])],hv:=192,Hs:=[64,192]},.r [],.c true,.r [(0,q1 [.agg [L.arr .u64 4 x9]])]] [] 0 [] (aO (Zci.snd c1) (Zci.snd c1) (Zbn.snd c2) (Zbn.snd c2) c3 (ZbN.snd c4) (ZbN.snd c4) (aO (ZbN.snd c4) (ZbN.snd c4) (Zbk.snd c5) (Zbk.snd c5) (Zbk.snd c5) (Zbk.snd c5) (Zci.snd c1) (aL (Zci.snd c1) (Zbn.snd c6) (Zbn.snd c6) c7 (Zdl.snd c8))))
   ·obtain rfl:=Zac h9
    exact afd fol hE [.r [],.d {ds:=[(1,q1 [.agg [L.arr .u64 4 x1]]),(2,q1 [.agg [L.arr .u64 4 x2],oB x3])],hv:=192,Hs:=[64,192]},.r [],.c false,.d {ds:=[(1,q1 [.agg [L.arr .u64 4 x4]]),(3,q1 [.agg [L.arr .u64 4 x5],.agg [L.arr .u64 4 x6]])],hv:=1920,Hs:=[128,256,384,896,1920]},.d {ds:=[(1,q1 [.agg [L.arr .u64 4 x1]]),(2,q1 [.agg [L.arr .u64 4 x7],oB x8])],hv:=192,Hs:=[64,192]},.r [],.c false,.r []] [] 0 [] (aO (Zci.snd c1) (Zci.snd c1) (Zbn.snd c2) (Zbn.snd c2) c3 (ZbN.snd c4) (ZbN.snd c4) (aO (ZbN.snd c4) (ZbN.snd c4) (Zbk.snd c5) (Zbk.snd c5) (Zbk.snd c5) (Zbk.snd c5) (Zci.snd c1) (aK (Zci.snd c1) (Zbn.snd c6) (Zbn.snd c6) c7)))
noncomputable def ZcO.B:Code:=Tryz.f98.body.getD .skip
noncomputable def ZcO.rs (r:(List Int)):List CV:=[.agg [L.arr .u64 4 r]]
noncomputable def ZcO (N:Nat) (bits_0:Int):Option (List Int):=
 optE (ZaB N bits_0) fun (x1,x2,x3)=>
 if x2=true then
  some (List.replicate 4 0)
 else
 if x3=true then
  some (List.replicate 4 0)
 else
 optE (Zcq N x1) fun x4=>
 if x4=true then
  some (List.replicate 4 0)
 else
 optE (ZeJ N x1) fun x5=>
 some x5
theorem ZcO.snd {bits_0:Int} {r:(List Int)} (h:ZcO N bits_0=some r):SndQ Tryz.prog 98 [oI bits_0] (ZcO.rs r):=fun st=>
 sO ZcO.B Tryz.func98 fun g0 w0 R hE=>by
  unfold ZcO at h
  obtain ⟨⟨x1,x2,x3⟩,c1,h1⟩:=Zad h
  refine iteB h1 (fun c2 h2=>?_) (fun c2 h3=>?_)
  ·obtain rfl:=Zac h2
   exact af fol hE [.r [],.r [(1,q1 [.agg [L.arr .u64 4 x1],oB x2,oB x3])],.r [(2,wF),(5,wF),(6,wF)],.c true,.r []] [] 0 [] (aN (ZaB.snd c1) c2 c2 eT eT eT eT)
  ·refine iteB h3 (fun c3 h4=>?_) (fun c3 h5=>?_)
   ·obtain rfl:=Zac h4
    exact af fol hE [.r [],.r [(1,q1 [.agg [L.arr .u64 4 x1],oB x2,oB x3])],.r [(3,yF),(5,wF),(6,wF)],.c true,.r []] [] 0 [] (aN (ZaB.snd c1) c2 c2 c3 c3 c3 eT)
   ·obtain ⟨x4,c4,h6⟩:=Zad h5
    refine iteB h6 (fun c5 h7=>?_) (fun c5 h8=>?_)
    ·obtain rfl:=Zac h7
     exact af fol hE [.r [],.r [(1,q1 [.agg [L.arr .u64 4 x1],oB x2,oB x3])],.r [(3,yF),(6,q1 [oB x4]),(7,yF)],.c true,.r []] [] 0 [] (aO (ZaB.snd c1) c2 c2 c3 c3 (Zcq.snd c4) c3 c5)
    ·obtain ⟨x5,c6,h9⟩:=Zad h8
     obtain rfl:=Zac h9
     exact af fol hE [.r [],.r [(1,q1 [.agg [L.arr .u64 4 x1],oB x2,oB x3])],.r [(3,yF),(6,q1 [oB x4]),(7,yF)],.c false,.r [(1,q1 [.agg [L.arr .u64 4 x5]])]] [] 0 [] (aO (ZaB.snd c1) c2 c2 c3 c3 (Zcq.snd c4) c3 (aI c5 (ZeJ.snd c6)))
noncomputable def Zcb.B:Code:=Tryz.f127.body.getD .skip
noncomputable def Zcb.rs (r:(List Int)×Bool):List CV:=[.agg [L.arr .u64 4 r.1],oB r.2]
noncomputable def Zcb.p1 (N:Nat) (list_0:LL) (c1_:(Bool×Int×(List Int))→Option ((List Int)×Bool)):(Bool×Int×(List Int))→Option ((List Int)×Bool):=fun (over_1,v2,out_6)=>
 if (decide (v2<(len list_0)))=true then
  chk (0≤v2)<|
  getE (list_0[Int.toNat v2]?) ZfO fun x7=>
  optE (Zbn N out_6 x7) fun (x8,x9)=>
  if over_1=true then
   c1_ (true,w64 (v2+1),x8)
  else
  c1_ (x9,w64 (v2+1),x8)
 else
 some (out_6,over_1)
noncomputable def Zcb (N:Nat) (list_0:LL):Option ((List Int)×Bool):=
 loopN (Zcb.p1 N list_0) N (false,0,List.replicate 4 0)
noncomputable def Zcb.p1.S (over_1:Bool) (list_0:LL) (v2:Int) (out_6:List Int) (st:LL):S:=mkS 28 [(2,sA 2),(4,sA 4),(5,.one (.l (L.bool over_1))),(9,sV 4 list_0),(10,sI (len list_0)),(11,sI v2)] [(2,.cells [L.arr .u64 4 (List.replicate 4 0)]),(4,.cells [L.arr .u64 4 out_6])] st
theorem Zcb.p1_ok {over_1 list_0 v2 out_6 st r c1_ J1} (h:Zcb.p1 N list_0 c1_ (over_1,v2,out_6)=some r) (hE:En Tryz.f127 g0 w0 (Zcb.rs r) st R) (hc1 : ∀over_1 v2 out_6,c1_ (over_1,v2,out_6)=some r→At g0 w0 (Zcb.p1.S over_1 list_0 v2 out_6 st) J1):At g0 w0 (Zcb.p1.S over_1 list_0 v2 out_6 st) (XK Tryz.prog R (.c (csub Zcb.B [1,1,1,0,1,0,0]) :: .h J1 :: [.b 0,.c (csub Zcb.B [1,1,1,1])])):=by
 unfold Zcb.p1 at h
 refine iteB h (fun c6 h1=>?_) (fun c6 h2=>?_)
 ·obtain ⟨c7,h3⟩:=ZaY h1
  obtain ⟨x7,c8,h4⟩:=ZgO h3
  obtain ⟨⟨x8,x9⟩,c9,h5⟩:=Zad h4
  refine iteB h5 (fun c10 h6=>?_) (fun c10 h7=>?_)
  ·exact an fol [.r [],.c true,.r [(1,{oe:=[L.arr .u64 4 x7]})],.r [],.r [(2,q1 [.agg [L.arr .u64 4 x8],oB x9])],.r [(2,wF)],.r []] [2,4,5,9,10,11] [2,4] (aN c6 c7 (oD c6) c8 (Zbn.snd c9) c10 c10) (hc1 true (w64 (v2+1)) x8 h6)
  ·exact an fol [.r [],.c true,.r [(1,{oe:=[L.arr .u64 4 x7]})],.r [],.r [(2,q1 [.agg [L.arr .u64 4 x8],oB x9])],.r [(3,yF)],.r []] [2,4,5,9,10,11] [2,4] (aN c6 c7 (oD c6) c8 (Zbn.snd c9) c10 c10) (hc1 x9 (w64 (v2+1)) x8 h7)
 ·obtain rfl:=Zac h2
  exact af fol hE [.r [],.c false,.r []] [] 0 [] c6
theorem Zcb.snd {list_0:LL} {r:(List Int)×Bool} (h:Zcb N list_0=some r):SndQ Tryz.prog 127 [.one (L.sl 4 list_0)] (Zcb.rs r):=fun st=>
 sO Zcb.B Tryz.func127 fun g0 w0 R hE=>by
  unfold Zcb at h
  exact aq fol [.r [],.r [],.r [],.r []] [2,4,5,9,10,11] [2,4] trivial (At.loop N (At.loopN (fun y:Bool×Int×(List Int)=>Zcb.p1.S y.1 list_0 y.2.1 y.2.2 st) (fun c J hc y h=>Zcb.p1_ok (over_1:=y.1) (v2:=y.2.1) (out_6:=y.2.2) h hE (fun over_1 v2 out_6=>hc (over_1,v2,out_6))) N (false,0,List.replicate 4 0) h))
noncomputable def Zeh.B:Code:=Tryz.f99.body.getD .skip
noncomputable def Zeh.rs (r:(List Int)):List CV:=[.agg [L.arr .u64 4 r]]
noncomputable def Zeh (N:Nat) (list_0:LL):Option (List Int):=
 optE (Zcb N list_0) fun (x1,x2)=>
 if x2=true then
  optE (Zdl N ) fun x3=>
  some x3
 else
 some x1
theorem Zeh.snd {list_0:LL} {r:(List Int)} (h:Zeh N list_0=some r):SndQ Tryz.prog 99 [.one (L.sl 4 list_0)] (Zeh.rs r):=fun st=>
 sO Zeh.B Tryz.func99 fun g0 w0 R hE=>by
  unfold Zeh at h
  obtain ⟨⟨x1,x2⟩,c1,h1⟩:=Zad h
  refine iteB h1 (fun c2 h2=>?_) (fun c2 h3=>?_)
  ·obtain ⟨x3,c3,h4⟩:=Zad h2
   obtain rfl:=Zac h4
   exact af fol hE [.r [],.r [(1,q1 [.agg [L.arr .u64 4 x1],oB x2])],.r [],.c true,.r [(0,q1 [.agg [L.arr .u64 4 x3]])]] [] 0 [] (aJ (Zcb.snd c1) c2 (Zdl.snd c3))
  ·obtain rfl:=Zac h3
   exact af fol hE [.r [],.r [(1,q1 [.agg [L.arr .u64 4 x1],oB x2])],.r [],.c false,.r []] [] 0 [] (aI (Zcb.snd c1) c2)
noncomputable def ZaU.B:Code:=Tryz.f66.body.getD .skip
noncomputable def ZaU.rs (r:Int×LL):List CV:=[oI r.1]
noncomputable def ZaU.p1 (N:Nat) (a_7:Option Nat) (behind_3:ZaQ) (e_6:ZbL) (st:LL):Option (Int×LL):=
 optE a_7 fun i8=>
 getE (st[i8]?) ZbJ fun x9=>
 chk (List.length (x9.list ++ [e_6.ls])*176≤140737488355328)<|
 chk (List.length (x9.spots ++ [behind_3.ls])*96≤140737488355328)<|
 optM (mfind x9.places (L.arr .u8 32 e_6.Id)) (fun j10 e=>Zdi [e] fun x11=>
  some (w64 ((len (x9.list ++ [e_6.ls]))-1),List.set (List.set (List.set (List.set (List.set st i8 (gs x9.lo 15)) i8 (gs (gs x9.lo 15) 16)) i8 (gs (Zas.lo {x9 with list:=x9.list ++ [e_6.ls]}) 16)) i8 (Zas.lo {x9 with list:=x9.list ++ [e_6.ls],spots:=x9.spots ++ [behind_3.ls]})) i8 (Zas.lo (Zas.mk x9.rules (x9.list ++ [e_6.ls]) (x9.spots ++ [behind_3.ls]) (List.set x9.places j10 (L.arr .u8 32 e_6.Id,L.int .i64 (w64 ((len (x9.list ++ [e_6.ls]))-1)))) x9.room))))
 (
  some (w64 ((len (x9.list ++ [e_6.ls]))-1),List.set (List.set (List.set (List.set (List.set st i8 (gs x9.lo 15)) i8 (gs (gs x9.lo 15) 16)) i8 (gs (Zas.lo {x9 with list:=x9.list ++ [e_6.ls]}) 16)) i8 (Zas.lo {x9 with list:=x9.list ++ [e_6.ls],spots:=x9.spots ++ [behind_3.ls]})) i8 (Zas.lo (Zas.mk x9.rules (x9.list ++ [e_6.ls]) (x9.spots ++ [behind_3.ls]) (x9.places ++ [(L.arr .u8 32 e_6.Id,L.int .i64 (w64 ((len (x9.list ++ [e_6.ls]))-1)))]) x9.room))))
noncomputable def ZaU (N:Nat) (a_0:Option Nat) (h_1:Zai) (ahead_2:Int) (behind_3:ZaQ) (st:LL):Option (Int×LL):=
 optE (ZcO N h_1.Bits) fun x1=>
 if (ahead_2 != (-1))=true then
  optE a_0 fun i2=>
  getE (st[i2]?) ZbJ fun x3=>
  chk (0≤ahead_2)<|
  chk (ahead_2<(len x3.list))<|
  getE (x3.list[0+(Int.toNat ahead_2)]?) ZdU fun x4=>
  optE (Zeh N [[L.arr .u64 4 x4.Work],[L.arr .u64 4 x1]]) fun x5=>
  ZaU.p1 N (some i2) behind_3 (ZbL.mk h_1 behind_3.Prev ahead_2 (w64 (x4.Height+1)) x5) st
 else
 ZaU.p1 N a_0 behind_3 (ZbL.mk h_1 behind_3.Prev ahead_2 0 x1) st
noncomputable def ZaU.p1.S (a_7:Option Nat) (behind_3:ZaQ) (e_6:ZbL) (st:LL):S:=mkS 81 [(0,sP a_7),(7,sA 7),(9,sA 9)] [(7,.cells behind_3.ls),(9,.cells e_6.ls)] st
theorem ZaU.p1_ok {a_7 behind_3 e_6 st r} (h:ZaU.p1 N a_7 behind_3 e_6 st=some r) (hE:En Tryz.f66 g0 w0 (ZaU.rs r) r.2 R):At g0 w0 (ZaU.p1.S a_7 behind_3 e_6 st) (XK Tryz.prog R [.c (csub ZaU.B [1,1,1])]):=by
 unfold ZaU.p1 at h
 obtain ⟨i8,rfl,h1⟩:=Zad h
 obtain ⟨x9,c10,h2⟩:=ZbD h1
 obtain ⟨c11,c12,h3⟩:=ck2 h2
 rcases ZjC h3 with ⟨j10,h7,c13,h4⟩ | ⟨c13,h5⟩
 ·obtain ⟨x11,h8,h6⟩:=Zgp h4
  obtain rfl:=Zha h8
  obtain rfl:=Zac h6
  exact afd fol hE [.d {ds:=[(5,{oc:=x9.lo}),(8,{oe:=x9.lo}),(12,{oc:=gs x9.lo 15}),(15,{oe:=gs x9.lo 15}),(18,{oc:=gs (gs x9.lo 15) 16,mv:=[51]}),(21,{oc:=gs (Zas.lo {x9 with list:=x9.list ++ [e_6.ls]}) 16,mv:=[58]})],hv:=2408832,Hs:=[128,384,16384,16512,16768,49536,311680,2408832],dh:=[(12,0,{oc:=x9.lo}),(12,128,{oc:=x9.lo}),(12,16384,{oc:=x9.lo}),(12,16512,{oc:=x9.lo})]},.d {ds:=[(3,{oc:=Zas.lo {x9 with list:=x9.list ++ [e_6.ls],spots:=x9.spots ++ [behind_3.ls]}}),(9,{oc:=Zas.lo {x9 with list:=x9.list ++ [e_6.ls],spots:=x9.spots ++ [behind_3.ls]}}),(12,{oc:=Zas.lo {x9 with list:=x9.list ++ [e_6.ls],spots:=x9.spots ++ [behind_3.ls]},m:=j10})],hv:=4096,Hs:=[4096]},.r [(3,{oc:=Zas.lo (Zas.mk x9.rules (x9.list ++ [e_6.ls]) (x9.spots ++ [behind_3.ls]) (List.set x9.places j10 (L.arr .u8 32 e_6.Id,L.int .i64 (w64 ((len (x9.list ++ [e_6.ls]))-1)))) x9.room)})]] [] 0 [] (aO c10 c10 c10 c10 z0 (eN (List.length x9.list)) c10 (aO z0 (eN (1)) c11 z0 (eN (List.length x9.list)) c10 z0 (aO (eN (1)) c11 c10 c10 (Zam c10 (gs x9.lo 15)) c10 c10 (aO (Zam c10 (gs x9.lo 15)) z0 (eN (List.length x9.spots)) (Zam c10 (gs x9.lo 15)) z0 (eN (1)) c12 (aO (Zam (Zam c10 (gs x9.lo 15)) (gs (gs x9.lo 15) 16)) z0 (eN (List.length (x9.list ++ [e_6.ls]))) (Zam (Zam (Zam c10 (gs x9.lo 15)) (gs (gs x9.lo 15) 16)) (gs (Zas.lo {x9 with list:=x9.list ++ [e_6.ls]}) 16)) z0 (eN (List.length (x9.spots ++ [behind_3.ls]))) (Zam (Zam (Zam (Zam c10 (gs x9.lo 15)) (gs (gs x9.lo 15) 16)) (gs (Zas.lo {x9 with list:=x9.list ++ [e_6.ls]}) 16)) (Zas.lo {x9 with list:=x9.list ++ [e_6.ls],spots:=x9.spots ++ [behind_3.ls]})) (aK (Zam (Zam (Zam (Zam c10 (gs x9.lo 15)) (gs (gs x9.lo 15) 16)) (gs (Zas.lo {x9 with list:=x9.list ++ [e_6.ls]}) 16)) (Zas.lo {x9 with list:=x9.list ++ [e_6.ls],spots:=x9.spots ++ [behind_3.ls]})) (ex_at c13) (Zam (Zam (Zam (Zam c10 (gs x9.lo 15)) (gs (gs x9.lo 15) 16)) (gs (Zas.lo {x9 with list:=x9.list ++ [e_6.ls]}) 16)) (Zas.lo {x9 with list:=x9.list ++ [e_6.ls],spots:=x9.spots ++ [behind_3.ls]})) (Zam (Zam (Zam (Zam (Zam c10 (gs x9.lo 15)) (gs (gs x9.lo 15) 16)) (gs (Zas.lo {x9 with list:=x9.list ++ [e_6.ls]}) 16)) (Zas.lo {x9 with list:=x9.list ++ [e_6.ls],spots:=x9.spots ++ [behind_3.ls]})) (Zas.lo (Zas.mk x9.rules (x9.list ++ [e_6.ls]) (x9.spots ++ [behind_3.ls]) (List.set x9.places j10 (L.arr .u8 32 e_6.Id,L.int .i64 (w64 ((len (x9.list ++ [e_6.ls]))-1)))) x9.room)))))))))
 ·obtain rfl:=Zac h5
  exact afd fol hE [.d {ds:=[(5,{oc:=x9.lo}),(8,{oe:=x9.lo}),(12,{oc:=gs x9.lo 15}),(15,{oe:=gs x9.lo 15}),(18,{oc:=gs (gs x9.lo 15) 16,mv:=[51]}),(21,{oc:=gs (Zas.lo {x9 with list:=x9.list ++ [e_6.ls]}) 16,mv:=[58]})],hv:=2408832,Hs:=[128,384,16384,16512,16768,49536,311680,2408832],dh:=[(12,0,{oc:=x9.lo}),(12,128,{oc:=x9.lo}),(12,16384,{oc:=x9.lo}),(12,16512,{oc:=x9.lo})]},.d {ds:=[(3,{oc:=Zas.lo {x9 with list:=x9.list ++ [e_6.ls],spots:=x9.spots ++ [behind_3.ls]}}),(9,{oc:=Zas.lo {x9 with list:=x9.list ++ [e_6.ls],spots:=x9.spots ++ [behind_3.ls]}}),(12,{oc:=Zas.lo {x9 with list:=x9.list ++ [e_6.ls],spots:=x9.spots ++ [behind_3.ls]},yes:=false})],hv:=4096,Hs:=[4096]},.r [(3,{oc:=Zas.lo (Zas.mk x9.rules (x9.list ++ [e_6.ls]) (x9.spots ++ [behind_3.ls]) (x9.places ++ [(L.arr .u8 32 e_6.Id,L.int .i64 (w64 ((len (x9.list ++ [e_6.ls]))-1)))]) x9.room)})]] [] 0 [] (aO c10 c10 c10 c10 z0 (eN (List.length x9.list)) c10 (aO z0 (eN (1)) c11 z0 (eN (List.length x9.list)) c10 z0 (aO (eN (1)) c11 c10 c10 (Zam c10 (gs x9.lo 15)) c10 c10 (aO (Zam c10 (gs x9.lo 15)) z0 (eN (List.length x9.spots)) (Zam c10 (gs x9.lo 15)) z0 (eN (1)) c12 (aO (Zam (Zam c10 (gs x9.lo 15)) (gs (gs x9.lo 15) 16)) z0 (eN (List.length (x9.list ++ [e_6.ls]))) (Zam (Zam (Zam c10 (gs x9.lo 15)) (gs (gs x9.lo 15) 16)) (gs (Zas.lo {x9 with list:=x9.list ++ [e_6.ls]}) 16)) z0 (eN (List.length (x9.spots ++ [behind_3.ls]))) (Zam (Zam (Zam (Zam c10 (gs x9.lo 15)) (gs (gs x9.lo 15) 16)) (gs (Zas.lo {x9 with list:=x9.list ++ [e_6.ls]}) 16)) (Zas.lo {x9 with list:=x9.list ++ [e_6.ls],spots:=x9.spots ++ [behind_3.ls]})) (aK (Zam (Zam (Zam (Zam c10 (gs x9.lo 15)) (gs (gs x9.lo 15) 16)) (gs (Zas.lo {x9 with list:=x9.list ++ [e_6.ls]}) 16)) (Zas.lo {x9 with list:=x9.list ++ [e_6.ls],spots:=x9.spots ++ [behind_3.ls]})) c13 (Zam (Zam (Zam (Zam c10 (gs x9.lo 15)) (gs (gs x9.lo 15) 16)) (gs (Zas.lo {x9 with list:=x9.list ++ [e_6.ls]}) 16)) (Zas.lo {x9 with list:=x9.list ++ [e_6.ls],spots:=x9.spots ++ [behind_3.ls]})) (Zam (Zam (Zam (Zam (Zam c10 (gs x9.lo 15)) (gs (gs x9.lo 15) 16)) (gs (Zas.lo {x9 with list:=x9.list ++ [e_6.ls]}) 16)) (Zas.lo {x9 with list:=x9.list ++ [e_6.ls],spots:=x9.spots ++ [behind_3.ls]})) (Zas.lo (Zas.mk x9.rules (x9.list ++ [e_6.ls]) (x9.spots ++ [behind_3.ls]) (x9.places ++ [(L.arr .u8 32 e_6.Id,L.int .i64 (w64 ((len (x9.list ++ [e_6.ls]))-1)))]) x9.room)))))))))
theorem ZaU.snd {a_0:Option Nat} {h_1:Zai} {ahead_2:Int} {behind_3:ZaQ} {st:LL} {r:Int×LL} (h:ZaU N a_0 h_1 ahead_2 behind_3 st=some r):Snd Tryz.prog 66 [.one (L.ptr a_0),.agg h_1.ls,oI ahead_2,.agg behind_3.ls] st (ZaU.rs r) r.2:=
 sO ZaU.B Tryz.func66 fun g0 w0 R hE=>by
  unfold ZaU at h
  obtain ⟨x1,c1,h9⟩:=Zad h
  refine iteB h9 (fun c2 h10=>?_) (fun c2 h11=>?_)
  ·obtain ⟨i2,rfl,h12⟩:=Zad h10
   obtain ⟨x3,c4,h13⟩:=ZbD h12
   obtain ⟨c5,c6,h14⟩:=ck2 h13
   obtain ⟨x4,c7,h15⟩:=ZeP h14
   obtain ⟨x5,c8,h16⟩:=Zad h15
   exact aqd fol [.r [],.d {ds:=[(6,q1 [.agg [L.arr .u64 4 x1]])],hv:=768,Hs:=[256,768]},.r [],.c true,.r [(3,{oc:=x3.lo}),(7,{oc:=x3.lo,oe:=x4.ls})],.d {ds:=[(3,{oc:=x3.lo}),(7,{oc:=x3.lo,oe:=x4.ls}),(11,{rs:=[.agg [L.arr .u64 4 x5]],m:=2})],hv:=9216,Hs:=[1024,9216]},.s 1] [0,7,9] [7,9] (aO (ZcO.snd c1) (ZcO.snd c1) c2 c4 c5 c6 c7 (aO c4 c4 c5 c6 c7 c4 z0 (aI (eN (2)) (Zeh.snd c8)))) (ZaU.p1_ok h16 hE)
  ·exact aqd fol [.r [],.d {ds:=[(6,q1 [.agg [L.arr .u64 4 x1]])],hv:=768,Hs:=[256,768]},.r [],.c false,.s 1] [0,7,9] [7,9] (aJ (ZcO.snd c1) (ZcO.snd c1) c2) (ZaU.p1_ok h11 hE)
noncomputable def ZdM.B:Code:=Tryz.f22.body.getD .skip
noncomputable def ZdM.rs (r:(Option Nat)×Int×LL):List CV:=[.one (L.ptr r.1),oI r.2.1]
noncomputable def ZdM (N:Nat) (p_0:Zaf) (room_1:Int) (st:LL):Option ((Option Nat)×Int×LL):=
 optE (ZbB N p_0) fun x1=>
 if (!x1)=true then
  some (none,1,st)
 else
 chk (List.length ([]++p_0.Gates)*16≤140737488355328)<|
 chk (List.length ([]++p_0.Checks)*40≤140737488355328)<|
 optE (Zeo N {p_0 with Gates:=[]++p_0.Gates,Checks:=[]++p_0.Checks}) fun x2=>
 optE (ZaU N (some (List.length st)) p_0.Genesis (-1) x2 (st ++ [Zas.lo (Zas.mk {p_0 with Gates:=[]++p_0.Gates,Checks:=[]++p_0.Checks} [] [] [] (if (512:Int)<(if (1:Int)>room_1 then 1 else room_1) then 512 else (if (1:Int)>room_1 then 1 else room_1)))])) fun (x3,st4)=>
 some ((some (List.length st)),0,st4)
theorem ZdM.snd {p_0:Zaf} {room_1:Int} {st:LL} {r:(Option Nat)×Int×LL} (h:ZdM N p_0 room_1 st=some r):Snd Tryz.prog 22 [.agg p_0.ls,oI room_1] st (ZdM.rs r) r.2.2:=
 sO ZdM.B Tryz.func22 fun g0 w0 R hE=>by
  unfold ZdM at h
  obtain ⟨x1,c1,h1⟩:=Zad h
  refine iteB h1 (fun c2 h2=>?_) (fun c2 h3=>?_)
  ·obtain rfl:=Zac h2
   exact af fol hE [.r [],.r [(1,q1 [oB x1])],.c true,.r []] [] 0 [] (aI (ZbB.snd c1) c2)
  ·obtain ⟨c3,c4,h4⟩:=ck2 h3
   obtain ⟨x2,c5,h5⟩:=Zad h4
   obtain ⟨⟨x3,st4⟩,c6,h6⟩:=Zad h5
   obtain rfl:=Zac h6
   exact afd fol hE [.r [],.r [(1,q1 [oB x1])],.c false,.d {ds:=[(7,{fz:=[12]}),(9,{fz:=[15]})],hv:=676,Hs:=[4,36,164,676]},.r [(5,{ns:=[15,16]}),(6,{m:=1})],.d {ds:=[(4,q1 [.agg x2.ls]),(5,{rs:=[oI x3],st:=st4})],hv:=32,Hs:=[32]},.r []] [] 0 [] (aO (ZbB.snd c1) c2 c3 c4 z0 (eN (List.length ([]++p_0.Gates))) z0 (aJ (eN (List.length ([]++p_0.Checks))) (Zeo.snd c5) (ZaU.snd c6)))
noncomputable def Zdv.B:Code:=Tryz.f75.body.getD .skip
noncomputable def Zdv.rs (r:(Option Nat)×Int×LL):List CV:=[.one (L.ptr r.1),oI r.2.1]
noncomputable def Zdv (N:Nat) (p_0:Zaf) (room_1:Int) (st:LL):Option ((Option Nat)×Int×LL):=
 optE (ZdM N p_0 room_1 st) fun (x1,x2,st3)=>
 if (x2 != 0)=true then
  some (none,x2,st3)
 else
 some ((some (List.length st3)),0,st3 ++ [[L.ptr x1,L.own true 1 [[L.int .i64 (-1)]]]])
theorem Zdv.snd {p_0:Zaf} {room_1:Int} {st:LL} {r:(Option Nat)×Int×LL} (h:Zdv N p_0 room_1 st=some r):Snd Tryz.prog 75 [.agg p_0.ls,oI room_1] st (Zdv.rs r) r.2.2:=
 sO Zdv.B Tryz.func75 fun g0 w0 R hE=>by
  unfold Zdv at h
  obtain ⟨⟨x1,x2,st3⟩,c1,h1⟩:=Zad h
  refine iteB h1 (fun c2 h2=>?_) (fun c2 h3=>?_)
  ·obtain rfl:=Zac h2
   exact af fol hE [.r [],.r [(2,{rs:=[.one (L.ptr x1),oI x2],st:=st3})],.r [],.c true,.r []] [] 0 [] (aI (ZdM.snd c1) c2)
  ·obtain rfl:=Zac h3
   exact af fol hE [.r [],.r [(2,{rs:=[.one (L.ptr x1),oI x2],st:=st3})],.r [],.c false,.r [(2,{ns:=[1]}),(3,{m:=1,mv:=[18]})]] [] 0 [] (aK (ZdM.snd c1) c2 z0 (eN (1)))
noncomputable def Zco.B:Code:=Tryz.f23.body.getD .skip
noncomputable def Zco.rs (r:Int):List CV:=[oI r]
noncomputable def Zco (N:Nat) (a_0:Zas):Option Int:=
 some (len a_0.list)
theorem Zco.snd {a_0:Zas} {r:Int} (h:Zco N a_0=some r):SndQ Tryz.prog 23 [.one (L.bx 87 a_0.ls)] (Zco.rs r):=fun st=>
 sO Zco.B Tryz.func23 fun g0 w0 R hE=>by
  unfold Zco at h
  obtain rfl:=Zac h
  exact af fol hE [.r [],.r [],.c false,.r [(3,{oe:=a_0.ls})]] [] 0 [] (aI eF (eO a_0.ls))
noncomputable def Zck.B:Code:=Tryz.f76.body.getD .skip
noncomputable def Zck.rs (r:Int):List CV:=[oI r]
noncomputable def Zck (N:Nat) (t_0:Zae):Option Int:=
 optE (Zco N t_0.store) fun x1=>
 some x1
theorem Zck.snd {t_0:Zae} {r:Int} (h:Zck N t_0=some r):SndQ Tryz.prog 76 [.one (L.bx 2 t_0.ls)] (Zck.rs r):=fun st=>
 sO Zck.B Tryz.func76 fun g0 w0 R hE=>by
  unfold Zck at h
  obtain ⟨x1,c1,h1⟩:=Zad h
  obtain rfl:=Zac h1
  exact af fol hE [.r [],.r [],.c false,.r [(3,{oe:=t_0.ls}),(4,q0 [oI x1])]] [] 0 [] (aJ eF (eO t_0.ls) (Zco.snd c1))
noncomputable def Zcj.B:Code:=Tryz.f67.body.getD .skip
noncomputable def Zcj.rs (r:Bool):List CV:=[oB r]
noncomputable def Zcj (N:Nat) (a_0:Zas) (at_1:Int):Option Bool:=
 if (decide (at_1≥0))=true then
  some (decide (at_1<(len a_0.list)))
 else
 some false
theorem Zcj.snd {a_0:Zas} {at_1:Int} {r:Bool} (h:Zcj N a_0 at_1=some r):SndQ Tryz.prog 67 [.one (L.bx 87 a_0.ls),oI at_1] (Zcj.rs r):=fun st=>
 sO Zcj.B Tryz.func67 fun g0 w0 R hE=>by
  unfold Zcj at h
  refine iteB h (fun c1 h1=>?_) (fun c1 h2=>?_)
  ·obtain rfl:=Zac h1
   exact af fol hE [.r [],.r [(11,{oe:=a_0.ls})]] [] 0 [] (aO eT eT eT c1 c1 c1 c1 (aL c1 (eO a_0.ls) c1 c1 c1))
  ·obtain rfl:=Zac h2
   exact af fol hE [.r [],.r [(7,wF),(8,wF),(9,wF),(10,wF),(11,wF),(12,wF),(13,wF),(14,yF)]] [] 0 [] (aO eT eT eT c1 c1 c1 c1 (aK c1 c1 c1 c1))
noncomputable def ZbK.B:Code:=Tryz.f25.body.getD .skip
noncomputable def ZbK.rs (r:ZbL×Bool):List CV:=[.agg r.1.ls,oB r.2]
noncomputable def ZbK (N:Nat) (a_0:Zas) (at_1:Int):Option (ZbL×Bool):=
 optE (Zcj N a_0 at_1) fun x1=>
 if (!x1)=true then
  some (ZbL.mk (Zai.mk 0 (List.replicate 32 0) (List.replicate 32 0) 0 0 0) (List.replicate 32 0) (-1) 0 (List.replicate 4 0),false)
 else
 chk (0≤at_1)<|
 chk (at_1<(len a_0.list))<|
 getE (a_0.list[Int.toNat at_1]?) ZdU fun x2=>
 some (x2,true)
theorem ZbK.snd {a_0:Zas} {at_1:Int} {r:ZbL×Bool} (h:ZbK N a_0 at_1=some r):SndQ Tryz.prog 25 [.one (L.bx 87 a_0.ls),oI at_1] (ZbK.rs r):=fun st=>
 sO ZbK.B Tryz.func25 fun g0 w0 R hE=>by
  unfold ZbK at h
  obtain ⟨x1,c1,h1⟩:=Zad h
  refine iteB h1 (fun c2 h2=>?_) (fun c2 h3=>?_)
  ·obtain rfl:=Zac h2
   exact af fol hE [.r [],.r [(2,q0 [oB x1])],.c true,.r []] [] 0 [] (aI (Zcj.snd c1) c2)
  ·obtain ⟨c3,c4,h4⟩:=ck2 h3
   obtain ⟨x2,c5,h5⟩:=ZeP h4
   obtain rfl:=Zac h5
   exact af fol hE [.r [],.r [(2,q0 [oB x1])],.c false,.r [(3,{oe:=a_0.ls}),(6,{oe:=x2.ls})]] [] 0 [] (aM (Zcj.snd c1) c2 (eO a_0.ls) c3 c4 c5)
noncomputable def ZbA.B:Code:=Tryz.f85.body.getD .skip
noncomputable def ZbA.rs (r:ZbL×Bool):List CV:=[.agg r.1.ls,oB r.2]
noncomputable def ZbA (N:Nat) (t_0:Zae) (at_1:Int):Option (ZbL×Bool):=
 optE (ZbK N t_0.store at_1) fun (x1,x2)=>
 some (x1,x2)
theorem ZbA.snd {t_0:Zae} {at_1:Int} {r:ZbL×Bool} (h:ZbA N t_0 at_1=some r):SndQ Tryz.prog 85 [.one (L.bx 2 t_0.ls),oI at_1] (ZbA.rs r):=fun st=>
 sO ZbA.B Tryz.func85 fun g0 w0 R hE=>by
  unfold ZbA at h
  obtain ⟨⟨x1,x2⟩,c1,h1⟩:=Zad h
  obtain rfl:=Zac h1
  exact af fol hE [.r [],.r [],.c false,.r [(3,{oe:=t_0.ls}),(5,q0 [.agg x1.ls,oB x2])]] [] 0 [] (aJ eF (eO t_0.ls) (ZbK.snd c1))
noncomputable def ZaH.B:Code:=Tryz.f81.body.getD .skip
noncomputable def ZaH.rs (r:Int):List CV:=[oI r]
noncomputable def ZaH (N:Nat) (t_0:Zae) (at_1:Int):Option Int:=
 optE (ZbA N t_0 at_1) fun (x1,x2)=>
 if (!x2)=true then
  some (-1)
 else
 some x1.Height
theorem ZaH.snd {t_0:Zae} {at_1:Int} {r:Int} (h:ZaH N t_0 at_1=some r):SndQ Tryz.prog 81 [.one (L.bx 2 t_0.ls),oI at_1] (ZaH.rs r):=fun st=>
 sO ZaH.B Tryz.func81 fun g0 w0 R hE=>by
  unfold ZaH at h
  obtain ⟨⟨x1,x2⟩,c1,h1⟩:=Zad h
  refine iteB h1 (fun c2 h2=>?_) (fun c2 h3=>?_)
  ·obtain rfl:=Zac h2
   exact af fol hE [.r [],.r [(2,q0 [.agg x1.ls,oB x2])],.r [],.c true,.r []] [] 0 [] (aI (ZbA.snd c1) c2)
  ·obtain rfl:=Zac h3
   exact af fol hE [.r [],.r [(2,q0 [.agg x1.ls,oB x2])],.r [],.c false,.r []] [] 0 [] (aI (ZbA.snd c1) c2)
noncomputable def Zao.B:Code:=Tryz.f77.body.getD .skip
noncomputable def Zao.rs (r:Int):List CV:=[oI r]
noncomputable def Zao.p2 (N:Nat) (c1_:(Int×Int)→Option Int) (t_0:Zae) (height_2 next_8 x6 x7:Int):Option Int:=
 optE (ZaH N t_0 next_8) fun x9=>
 c1_ (next_8,x9)
noncomputable def Zao.p1 (N:Nat) (t_0:Zae) (height_2:Int) (c1_:(Int×Int)→Option Int):(Int×Int)→Option Int:=fun (at_2,h_3)=>
 if (decide (h_3>height_2))=true then
  optE (ZbA N t_0 at_2) fun (x4,x5)=>
  chk (0≤at_2)<|
  chk (at_2<(len t_0.leaps))<|
  getE (t_0.leaps[Int.toNat at_2]?) Zdi fun x6=>
  if (x6 != (-1))=true then
   optE (ZaH N t_0 x6) fun x7=>
   if (decide (x7≥height_2))=true then
    Zao.p2 N c1_ t_0 height_2 x6 x6 x7
   else
   Zao.p2 N c1_ t_0 height_2 x4.Ahead x6 x7
  else
  optE (ZaH N t_0 x4.Ahead) fun x10=>
  c1_ (x4.Ahead,x10)
 else
 some at_2
noncomputable def Zao (N:Nat) (t_0:Zae) (at_1 height_2:Int):Option Int:=
 optE (ZaH N t_0 at_1) fun x1=>
 if (decide (height_2<0))=true then
  some (-1)
 else
 if (decide (height_2>x1))=true then
  some (-1)
 else
 loopN (Zao.p1 N t_0 height_2) N (at_1,x1)
noncomputable def Zao.p2.S (t_0:Zae) (height_2 next_8 x6 x7:Int) (st:LL):S:=mkS 55 [(0,.one (.l (L.bx 2 t_0.ls))),(2,sI height_2),(10,sI next_8),(43,.one (.l (L.bx 2 t_0.ls))),(44,sI x6),(45,sI x7),(46,sI height_2),(47,.one (.l (L.bool (decide (x7≥height_2)))))] [] st
noncomputable def Zao.p1.S (t_0:Zae) (at_2 height_2 h_3:Int) (st:LL):S:=mkS 55 [(0,.one (.l (L.bx 2 t_0.ls))),(1,sI at_2),(2,sI height_2),(7,sI h_3)] [] st
theorem Zao.p2_ok {t_0 height_2 next_8 x6 x7 st r c1_ J1} (h:Zao.p2 N c1_ t_0 height_2 next_8 x6 x7=some r) (hE:En Tryz.f77 g0 w0 (Zao.rs r) st R) (hc1 : ∀at_2 h_3,c1_ (at_2,h_3)=some r→At g0 w0 (Zao.p1.S t_0 at_2 height_2 h_3 st) J1):At g0 w0 (Zao.p2.S t_0 height_2 next_8 x6 x7 st) (XK Tryz.prog R [.c (csub Zao.B [1,1,1,0,0,0,1,0,1,1,1]),.b 1,.h J1,.b 0,.c (csub Zao.B [1,1,1,1])]):=by
 unfold Zao.p2 at h
 obtain ⟨x9,c12,h1⟩:=Zad h
 exact an fol [.r [(3,q0 [oI x9])]] [0,1,2,7] [] (ZaH.snd c12) (hc1 next_8 x9 h1)
theorem Zao.p1_ok {t_0 at_2 height_2 h_3 st r c1_ J1} (h:Zao.p1 N t_0 height_2 c1_ (at_2,h_3)=some r) (hE:En Tryz.f77 g0 w0 (Zao.rs r) st R) (hc1 : ∀at_2 h_3,c1_ (at_2,h_3)=some r→At g0 w0 (Zao.p1.S t_0 at_2 height_2 h_3 st) J1):At g0 w0 (Zao.p1.S t_0 at_2 height_2 h_3 st) (XK Tryz.prog R (.c (csub Zao.B [1,1,1,0,0,0]) :: .h J1 :: [.b 0,.c (csub Zao.B [1,1,1,1])])):=by
 unfold Zao.p1 at h
 refine iteB h (fun c4 h2=>?_) (fun c4 h3=>?_)
 ·obtain ⟨⟨x4,x5⟩,c5,h4⟩:=Zad h2
  obtain ⟨c6,c7,h5⟩:=ck2 h4
  obtain ⟨x6,c8,h6⟩:=ZcC h5
  refine iteB h6 (fun c9 h7=>?_) (fun c9 h8=>?_)
  ·obtain ⟨x7,c10,h9⟩:=Zad h7
   refine iteB h9 (fun c11 h10=>?_) (fun c11 h11=>?_)
   ·exact aq fol [.r [],.c true,.r [(2,q0 [.agg x4.ls,oB x5])],.r [],.r [(3,{oe:=t_0.ls}),(6,{oe:=[L.int .i64 x6]})],.r [(5,q0 [oI x7])],.c true,.r [],.s 5] [0,2,10,43,44,45,46,47] [] (aO c4 (ZbA.snd c5) (eO t_0.ls) c6 c7 c8 c9 (aN c9 c9 (ZaH.snd c10) c9 c9 c9 c11)) (Zao.p2_ok h10 hE hc1)
   ·exact aq fol [.r [],.c true,.r [(2,q0 [.agg x4.ls,oB x5])],.r [],.r [(3,{oe:=t_0.ls}),(6,{oe:=[L.int .i64 x6]})],.r [(5,q0 [oI x7])],.c false,.s 5] [0,2,10,43,44,45,46,47] [] (aO c4 (ZbA.snd c5) (eO t_0.ls) c6 c7 c8 c9 (aN c9 c9 (ZaH.snd c10) c9 c9 c9 c11)) (Zao.p2_ok h11 hE hc1)
  ·obtain ⟨x10,c13,h12⟩:=Zad h8
   exact an fol [.r [],.c true,.r [(2,q0 [.agg x4.ls,oB x5])],.r [],.r [(3,{oe:=t_0.ls}),(6,{oe:=[L.int .i64 x6]})],.r [(3,wF),(4,wF),(5,wF),(6,wF),(7,wF),(8,yF)],.c false,.r [(3,q0 [oI x10])]] [0,1,2,7] [] (aO c4 (ZbA.snd c5) (eO t_0.ls) c6 c7 c8 c9 (aN c9 c9 c9 c9 c9 eF (ZaH.snd c13))) (hc1 x4.Ahead x10 h12)
 ·obtain rfl:=Zac h3
  exact af fol hE [.r [],.c false,.r []] [] 0 [] c4
theorem Zao.snd {t_0:Zae} {at_1 height_2:Int} {r:Int} (h:Zao N t_0 at_1 height_2=some r):SndQ Tryz.prog 77 [.one (L.bx 2 t_0.ls),oI at_1,oI height_2] (Zao.rs r):=fun st=>
 sO Zao.B Tryz.func77 fun g0 w0 R hE=>by
  unfold Zao at h
  obtain ⟨x1,c1,h13⟩:=Zad h
  refine iteB h13 (fun c2 h14=>?_) (fun c2 h15=>?_)
  ·obtain rfl:=Zac h14
   exact af fol hE [.r [],.r [(2,q0 [oI x1])],.r [(3,wF),(4,wF),(5,wF)],.c true,.r []] [] 0 [] (aM (ZaH.snd c1) c2 c2 c2 c2 eT)
  ·refine iteB h15 (fun c3 h16=>?_) (fun c3 h17=>?_)
   ·obtain rfl:=Zac h16
    exact af fol hE [.r [],.r [(2,q0 [oI x1])],.r [(6,yF)],.c true,.r []] [] 0 [] (aM (ZaH.snd c1) c2 c2 c2 c2 c3)
   ·exact aq fol [.r [],.r [(2,q0 [oI x1])],.r [(6,yF)],.c false] [0,1,2,7] [] (aM (ZaH.snd c1) c2 c2 c2 c2 c3) (At.loop N (At.loopN (fun y:Int×Int=>Zao.p1.S t_0 y.1 height_2 y.2 st) (fun c J hc y h=>Zao.p1_ok (at_2:=y.1) (h_3:=y.2) h hE (fun at_2 h_3=>hc (at_2,h_3))) N (at_1,x1) h17))
noncomputable def Zdb.B:Code:=Tryz.f105.body.getD .skip
noncomputable def Zdb.rs (r:Int):List CV:=[oI r]
noncomputable def Zdb (N:Nat) (n_0:Int):Option Int:=
 some (bitsOf .and .i64 n_0 (w64 (n_0-1)))
theorem Zdb.snd {n_0:Int} {r:Int} (h:Zdb N n_0=some r):SndQ Tryz.prog 105 [oI n_0] (Zdb.rs r):=fun st=>
 sO Zdb.B Tryz.func105 fun g0 w0 R hE=>by
  unfold Zdb at h
  obtain rfl:=Zac h
  exact af fol hE [.r [],.r []] [] 0 [] trivial
noncomputable def Zcu.B:Code:=Tryz.f78.body.getD .skip
noncomputable def Zcu.rs (r:Int):List CV:=[oI r]
noncomputable def Zcu (N:Nat) (h_0:Int):Option Int:=
 if (decide (h_0<2))=true then
  some 0
 else
 if ((bitsOf .and .i64 h_0 1)==0)=true then
  optE (Zdb N h_0) fun x1=>
  some x1
 else
 optE (Zdb N (w64 (h_0-1))) fun x2=>
 optE (Zdb N x2) fun x3=>
 some (w64 (x3+1))
theorem Zcu.snd {h_0:Int} {r:Int} (h:Zcu N h_0=some r):SndQ Tryz.prog 78 [oI h_0] (Zcu.rs r):=fun st=>
 sO Zcu.B Tryz.func78 fun g0 w0 R hE=>by
  unfold Zcu at h
  refine iteB h (fun c1 h1=>?_) (fun c1 h2=>?_)
  ·obtain rfl:=Zac h1
   exact af fol hE [.r [],.r [],.c true,.r []] [] 0 [] c1
  ·refine iteB h2 (fun c2 h3=>?_) (fun c2 h4=>?_)
   ·obtain ⟨x1,c3,h5⟩:=Zad h3
    obtain rfl:=Zac h5
    exact af fol hE [.r [],.r [],.c false,.r [],.c true,.r [(1,q1 [oI x1])]] [] 0 [] (aJ c1 c2 (Zdb.snd c3))
   ·obtain ⟨x2,c4,h6⟩:=Zad h4
    obtain ⟨x3,c5,h7⟩:=Zad h6
    obtain rfl:=Zac h7
    exact af fol hE [.r [],.r [],.c false,.r [],.c false,.r [(2,q1 [oI x2]),(3,q1 [oI x3])]] [] 0 [] (aK c1 c2 (Zdb.snd c4) (Zdb.snd c5))
noncomputable def ZcE.B:Code:=Tryz.f39.body.getD .skip
noncomputable def ZcE.rs (r:Bool×LL):List CV:=[oB r.1]
noncomputable def ZcE (N:Nat) (st:LL):Option (Bool×LL):=
 optE (Zdv N (Zaf.mk 545259519 4 10 0 false [] [] (List.replicate 4 0) (List.replicate 4 0) (Zai.mk 0 (List.replicate 32 0) (List.replicate 32 0) 0 0 0)) 5 st) fun (x1,x2,st3)=>
 if (x2==0)=true then
  optE x1 fun i4=>
  getE (st3[i4]?) ZcG fun x5 x6=>
  optE x5 fun i7=>
  getE (st3[i7]?) ZbJ fun x8=>
  optE (Zck N (Zae.mk x8 x6)) fun x9=>
  if (x9==1)=true then
   optE (Zao N (Zae.mk x8 x6) 0 0) fun x10=>
   if (x10==0)=true then
    optE (Zcu N 8) fun x11=>
    if (x11==0)=true then
     optE (Zcu N 7) fun x12=>
     some (x12==1,st3)
    else
    some (false,st3)
   else
   some (false,st3)
  else
  some (false,st3)
 else
 some (false,st3)
theorem ZcE.snd {st:LL} {r:Bool×LL} (h:ZcE N st=some r):Snd Tryz.prog 39 [] st (ZcE.rs r) r.2:=
 sO ZcE.B Tryz.func39 fun g0 w0 R hE=>by
  unfold ZcE at h
  obtain ⟨⟨x1,x2,st3⟩,c1,h1⟩:=Zad h
  refine iteB h1 (fun c2 h2=>?_) (fun c2 h3=>?_)
  ·obtain ⟨i4,rfl,h4⟩:=Zad h2
   obtain ⟨x5,x6,c4,h5⟩:=Zcz h4
   obtain ⟨i7,rfl,h6⟩:=Zad h5
   obtain ⟨x8,c6,h7⟩:=ZbD h6
   obtain ⟨x9,c7,h8⟩:=Zad h7
   refine iteB h8 (fun c8 h9=>?_) (fun c8 h10=>?_)
   ·obtain ⟨x10,c9,h11⟩:=Zad h9
    refine iteB h11 (fun c10 h12=>?_) (fun c10 h13=>?_)
    ·obtain ⟨x11,c11,h14⟩:=Zad h12
     refine iteB h14 (fun c12 h15=>?_) (fun c12 h16=>?_)
     ·obtain ⟨x12,c13,h17⟩:=Zad h15
      obtain rfl:=Zac h17
      exact af fol hE [.r [],.r [(1,{rs:=[.one (L.ptr (some i4)),oI x2],st:=st3})],.r [(4,{rs:=[oI x9],m:=10,cv:=[.one (L.bx 2 (Zae.ls (Zae.mk x8 x6)))]}),(9,{rs:=[oI x10],m:=10,cv:=[.one (L.bx 2 (Zae.ls (Zae.mk x8 x6)))]}),(13,q1 [oI x11]),(17,q1 [oI x12])]] [] 0 [] (aO (Zdv.snd c1) c2 c2 (bO 2 c4 ((bC 87 c6 (Zas.bv x8) (bW bN)):BVs st3 [L.ptr (some i7),L.own true 1 x6] (Zae.ls (Zae.mk x8 x6)))) (Zck.snd c7) c2 c2 (aO c8 c8 (bO 2 c4 ((bC 87 c6 (Zas.bv x8) (bW bN)):BVs st3 [L.ptr (some i7),L.own true 1 x6] (Zae.ls (Zae.mk x8 x6)))) (Zao.snd c9) c8 c8 c10 (aN (Zcu.snd c11) c10 c10 c12 (Zcu.snd c13) c12 c12)))
     ·obtain rfl:=Zac h16
      exact af fol hE [.r [],.r [(1,{rs:=[.one (L.ptr (some i4)),oI x2],st:=st3})],.r [(4,{rs:=[oI x9],m:=10,cv:=[.one (L.bx 2 (Zae.ls (Zae.mk x8 x6)))]}),(9,{rs:=[oI x10],m:=10,cv:=[.one (L.bx 2 (Zae.ls (Zae.mk x8 x6)))]}),(13,q1 [oI x11]),(17,wF),(18,wF),(19,yF)]] [] 0 [] (aO (Zdv.snd c1) c2 c2 (bO 2 c4 ((bC 87 c6 (Zas.bv x8) (bW bN)):BVs st3 [L.ptr (some i7),L.own true 1 x6] (Zae.ls (Zae.mk x8 x6)))) (Zck.snd c7) c2 c2 (aO c8 c8 (bO 2 c4 ((bC 87 c6 (Zas.bv x8) (bW bN)):BVs st3 [L.ptr (some i7),L.own true 1 x6] (Zae.ls (Zae.mk x8 x6)))) (Zao.snd c9) c8 c8 c10 (aM (Zcu.snd c11) c10 c10 c12 c12 c12)))
    ·obtain rfl:=Zac h13
     exact af fol hE [.r [],.r [(1,{rs:=[.one (L.ptr (some i4)),oI x2],st:=st3})],.r [(4,{rs:=[oI x9],m:=10,cv:=[.one (L.bx 2 (Zae.ls (Zae.mk x8 x6)))]}),(9,{rs:=[oI x10],m:=10,cv:=[.one (L.bx 2 (Zae.ls (Zae.mk x8 x6)))]}),(13,wF),(14,wF),(15,yF),(17,wF),(18,wF),(19,yF)]] [] 0 [] (aO (Zdv.snd c1) c2 c2 (bO 2 c4 ((bC 87 c6 (Zas.bv x8) (bW bN)):BVs st3 [L.ptr (some i7),L.own true 1 x6] (Zae.ls (Zae.mk x8 x6)))) (Zck.snd c7) c2 c2 (aO c8 c8 (bO 2 c4 ((bC 87 c6 (Zas.bv x8) (bW bN)):BVs st3 [L.ptr (some i7),L.own true 1 x6] (Zae.ls (Zae.mk x8 x6)))) (Zao.snd c9) c8 c8 c10 (aL c10 c10 eF eF eF)))
   ·obtain rfl:=Zac h10
    exact af fol hE [.r [],.r [(1,{rs:=[.one (L.ptr (some i4)),oI x2],st:=st3})],.r [(4,{rs:=[oI x9],m:=10,cv:=[.one (L.bx 2 (Zae.ls (Zae.mk x8 x6)))]}),(8,wF),(9,wF),(10,wF),(11,yF),(13,wF),(14,wF),(15,yF),(17,wF),(18,wF),(19,yF)]] [] 0 [] (aO (Zdv.snd c1) c2 c2 (bO 2 c4 ((bC 87 c6 (Zas.bv x8) (bW bN)):BVs st3 [L.ptr (some i7),L.own true 1 x6] (Zae.ls (Zae.mk x8 x6)))) (Zck.snd c7) c2 c2 (aO c8 c8 c8 c8 eF eF eF (aJ eF eF eF)))
  ·obtain rfl:=Zac h3
   exact af fol hE [.r [],.r [(1,{rs:=[.one (L.ptr x1),oI x2],st:=st3})],.r [(3,wF),(4,wF),(5,wF),(6,yF),(8,wF),(9,wF),(10,wF),(11,yF),(13,wF),(14,wF),(15,yF),(17,wF),(18,wF),(19,yF)]] [] 0 [] (aO (Zdv.snd c1) c2 c2 c2 c2 eF eF (aO eF eF eF eF eF eF eF eF))
noncomputable def Zak.B:Code:=Tryz.f125.body.getD .skip
noncomputable def Zak.rs (r:(List Int)):List CV:=[.agg [L.arr .u64 4 r]]
noncomputable def Zak.p4 (N:Nat) (c3_:(Int×(List Int))→Option (List Int)) (n_13 i_19:Int) (a_18 out_22:List Int):Option (List Int):=
 c3_ (w64 (i_19+1),out_22)
noncomputable def Zak.p3 (N:Nat) (n_13:Int) (a_18:List Int) (c3_:(Int×(List Int))→Option (List Int)):(Int×(List Int))→Option (List Int):=fun (i_19,out_21)=>
 if (decide (i_19<4))=true then
  if (decide (n_13>0))=true then
   chk (0≤i_19)<|
   chk (0≤(v64 (n_13)))<|
   if (decide (i_19>0))=true then
    chk (0≤(w64 (i_19-1)))<|
    chk ((w64 (i_19-1))<4)<|
    chk (0≤(v64 (w64 (64-n_13))))<|
    Zak.p4 N c3_ n_13 i_19 a_18 (List.set (List.set out_21 (Int.toNat i_19) (shlOf .u64 (List.getD a_18 (Int.toNat i_19) 0) (v64 (n_13)))) (Int.toNat i_19) (v64 ((List.getD (List.set out_21 (Int.toNat i_19) (shlOf .u64 (List.getD a_18 (Int.toNat i_19) 0) (v64 (n_13)))) (Int.toNat i_19) 0)+(shrOf .u64 (List.getD a_18 (Int.toNat (w64 (i_19-1))) 0) (v64 (w64 (64-n_13)))))))
   else
   Zak.p4 N c3_ n_13 i_19 a_18 (List.set out_21 (Int.toNat i_19) (shlOf .u64 (List.getD a_18 (Int.toNat i_19) 0) (v64 (n_13))))
  else
  chk (0≤i_19)<|
  chk (0≤(v64 (w64 (0-n_13))))<|
  if (decide (i_19<3))=true then
   chk (0≤(w64 (i_19+1)))<|
   chk ((w64 (i_19+1))<4)<|
   chk (0≤(v64 (w64 (64+n_13))))<|
   Zak.p4 N c3_ n_13 i_19 a_18 (List.set (List.set out_21 (Int.toNat i_19) (shrOf .u64 (List.getD a_18 (Int.toNat i_19) 0) (v64 (w64 (0-n_13))))) (Int.toNat i_19) (v64 ((List.getD (List.set out_21 (Int.toNat i_19) (shrOf .u64 (List.getD a_18 (Int.toNat i_19) 0) (v64 (w64 (0-n_13))))) (Int.toNat i_19) 0)+(shlOf .u64 (List.getD a_18 (Int.toNat (w64 (i_19+1))) 0) (v64 (w64 (64+n_13)))))))
  else
  Zak.p4 N c3_ n_13 i_19 a_18 (List.set out_21 (Int.toNat i_19) (shrOf .u64 (List.getD a_18 (Int.toNat i_19) 0) (v64 (w64 (0-n_13)))))
 else
 some out_21
noncomputable def Zak.p2 (N:Nat) (c2_:(Int×(List Int))→Option (List Int)):(Int×(List Int))→Option (List Int):=fun (n_13,a_18)=>
 if (decide (n_13≤(-64)))=true then
  c2_ (w64 (n_13+64),[List.getD a_18 1 0,List.getD a_18 2 0,List.getD a_18 3 0,0])
 else
 if (n_13==0)=true then
  some a_18
 else
 loopN (Zak.p3 N n_13 a_18) N (0,List.replicate 4 0)
noncomputable def Zak.p1 (N:Nat) (c1_:(Int×(List Int))→Option (List Int)):(Int×(List Int))→Option (List Int):=fun (n_1,a_12)=>
 if (decide (n_1≥64))=true then
  c1_ (w64 (n_1-64),[0,List.getD a_12 0 0,List.getD a_12 1 0,List.getD a_12 2 0])
 else
 loopN (Zak.p2 N) N (n_1,a_12)
noncomputable def Zak (N:Nat) (a_0_0:List Int) (n_1:Int):Option (List Int):=
 if (decide (n_1≤(-256)))=true then
  some (List.replicate 4 0)
 else
 if (decide (n_1≥256))=true then
  some (List.replicate 4 0)
 else
 loopN (Zak.p1 N) N (n_1,a_0_0)
noncomputable def Zak.p4.S (n_13 i_19:Int) (a_18 out_22:List Int) (st:LL):S:=mkS 96 [(1,sI n_13),(2,sA 2),(4,sA 4),(5,sA 5),(6,sI i_19)] [(2,.cells [L.arr .u64 4 a_18]),(4,.cells [L.arr .u64 4 (List.replicate 4 0)]),(5,.cells [L.arr .u64 4 out_22])] st
noncomputable def Zak.p3.S (n_13 i_19:Int) (a_18 out_21:List Int) (st:LL):S:=mkS 96 [(1,sI n_13),(2,sA 2),(4,sA 4),(5,sA 5),(6,sI i_19)] [(2,.cells [L.arr .u64 4 a_18]),(4,.cells [L.arr .u64 4 (List.replicate 4 0)]),(5,.cells [L.arr .u64 4 out_21])] st
noncomputable def Zak.p2.S (n_13:Int) (a_18:List Int) (st:LL):S:=mkS 96 [(1,sI n_13),(2,sA 2),(4,sA 4),(5,sA 5)] [(2,.cells [L.arr .u64 4 a_18]),(4,.cells [L.arr .u64 4 (List.replicate 4 0)]),(5,.cells [L.arr .u64 4 (List.replicate 4 0)])] st
noncomputable def Zak.p1.S (n_1:Int) (a_12:List Int) (st:LL):S:=mkS 96 [(1,sI n_1),(2,sA 2),(4,sA 4),(5,sA 5)] [(2,.cells [L.arr .u64 4 a_12]),(4,.cells [L.arr .u64 4 (List.replicate 4 0)]),(5,.cells [L.arr .u64 4 (List.replicate 4 0)])] st
theorem Zak.p4_ok {n_13 i_19 a_18 out_22 st r c3_ J3} (h:Zak.p4 N c3_ n_13 i_19 a_18 out_22=some r) (hE:En Tryz.f125 g0 w0 (Zak.rs r) st R) (hc3 : ∀i_19 out_21,c3_ (i_19,out_21)=some r→At g0 w0 (Zak.p3.S n_13 i_19 a_18 out_21 st) J3):At g0 w0 (Zak.p4.S n_13 i_19 a_18 out_22 st) (XK Tryz.prog R [.c (csub Zak.B [1,1,1,1,1,1,0,1,0,0,1,1]),.h J3,.b 4,.c (csub Zak.B [1,1,1,1,1,1,1])]):=by
 unfold Zak.p4 at h
 exact an fol [.r []] [1,2,4,5,6] [2,4,5] trivial (hc3 (w64 (i_19+1)) out_22 h)
theorem Zak.p3_ok {n_13 i_19 a_18 out_21 st r c3_ J3} (h:Zak.p3 N n_13 a_18 c3_ (i_19,out_21)=some r) (hE:En Tryz.f125 g0 w0 (Zak.rs r) st R) (hc3 : ∀i_19 out_21,c3_ (i_19,out_21)=some r→At g0 w0 (Zak.p3.S n_13 i_19 a_18 out_21 st) J3):At g0 w0 (Zak.p3.S n_13 i_19 a_18 out_21 st) (XK Tryz.prog R (.c (csub Zak.B [1,1,1,1,1,1,0,1,0,0]) :: .h J3 :: [.b 4,.c (csub Zak.B [1,1,1,1,1,1,1])])):=by
 unfold Zak.p3 at h
 refine iteB h (fun c111 h1=>?_) (fun c111 h2=>?_)
 ·refine iteB h1 (fun c112 h3=>?_) (fun c112 h4=>?_)
  ·obtain ⟨c113,c114,h5⟩:=ck2 h3
   refine iteB h5 (fun c115 h6=>?_) (fun c115 h7=>?_)
   ·obtain ⟨c116,c117,c118,h8⟩:=ck3 h6
    exact aqd fol [.r [],.c true,.r [],.c true,.r [],.r [],.c true,.d {ds:=[],hv:=16384,Hs:=[16384]},.s 4] [1,2,4,5,6] [2,4,5] (aO c111 c112 c113 (oD c111) c114 c113 (oD c111) (aO c115 c113 (oD c111) c116 c117 c118 c113 (oD c111))) (Zak.p4_ok h8 hE hc3)
   ·exact aq fol [.r [],.c true,.r [],.c true,.r [],.r [],.c false,.s 4] [1,2,4,5,6] [2,4,5] (aO c111 c112 c113 (oD c111) c114 c113 (oD c111) c115) (Zak.p4_ok h7 hE hc3)
  ·obtain ⟨c119,c120,h9⟩:=ck2 h4
   refine iteB h9 (fun c121 h10=>?_) (fun c121 h11=>?_)
   ·obtain ⟨c122,c123,c124,h12⟩:=ck3 h10
    exact aqd fol [.r [],.c true,.r [],.c false,.r [],.r [],.c true,.d {ds:=[],hv:=16384,Hs:=[16384]},.s 4] [1,2,4,5,6] [2,4,5] (aO c111 c112 c119 (oD c111) c120 c119 (oD c111) (aO c121 c119 (oD c111) c122 c123 c124 c119 (oD c111))) (Zak.p4_ok h12 hE hc3)
   ·exact aq fol [.r [],.c true,.r [],.c false,.r [],.r [],.c false,.s 4] [1,2,4,5,6] [2,4,5] (aO c111 c112 c119 (oD c111) c120 c119 (oD c111) c121) (Zak.p4_ok h11 hE hc3)
 ·obtain rfl:=Zac h2
  exact af fol hE [.r [],.c false,.r []] [] 0 [] c111
theorem Zak.p2_ok {n_13 a_18 st r c2_ J2} (h:Zak.p2 N c2_ (n_13,a_18)=some r) (hE:En Tryz.f125 g0 w0 (Zak.rs r) st R) (hc2 : ∀n_13 a_18,c2_ (n_13,a_18)=some r→At g0 w0 (Zak.p2.S n_13 a_18 st) J2):At g0 w0 (Zak.p2.S n_13 a_18 st) (XK Tryz.prog R (.c (csub Zak.B [1,1,1,1,0,0,0]) :: .h J2 :: [.b 2,.c (csub Zak.B [1,1,1,1,1])])):=by
 unfold Zak.p2 at h
 refine iteB h (fun c95 h13=>?_) (fun c95 h14=>?_)
 ·exact an fol [.r [],.c true,.r [(6,{m:=3})],.r []] [1,2,4,5] [2,4,5] (aI c95 (ix 1 4 (ix 2 4 (aI (leI 0 3) (ltI 3 4))))) (hc2 (w64 (n_13+64)) [List.getD a_18 1 0,List.getD a_18 2 0,List.getD a_18 3 0,0] h13)
 ·refine iteB h14 (fun c96 h15=>?_) (fun c96 h16=>?_)
  ·obtain rfl:=Zac h15
   exact af fol hE [.r [],.c false,.r [],.c true,.r []] [] 0 [] (aI c95 c96)
  ·exact aq fol [.r [],.c false,.r [],.c false,.r []] [1,2,4,5,6] [2,4,5] (aI c95 c96) (At.loop N (At.loopN (fun y:Int×(List Int)=>Zak.p3.S n_13 y.1 a_18 y.2 st) (fun c J hc y h=>Zak.p3_ok (i_19:=y.1) (out_21:=y.2) h hE (fun i_19 out_21=>hc (i_19,out_21))) N (0,List.replicate 4 0) h16))
theorem Zak.p1_ok {n_1 a_12 st r c1_ J1} (h:Zak.p1 N c1_ (n_1,a_12)=some r) (hE:En Tryz.f125 g0 w0 (Zak.rs r) st R) (hc1 : ∀n_1 a_12,c1_ (n_1,a_12)=some r→At g0 w0 (Zak.p1.S n_1 a_12 st) J1):At g0 w0 (Zak.p1.S n_1 a_12 st) (XK Tryz.prog R (.c (csub Zak.B [1,1,1,0,0,0]) :: .h J1 :: [.b 0,.c (csub Zak.B [1,1,1,1])])):=by
 unfold Zak.p1 at h
 refine iteB h (fun c64 h17=>?_) (fun c64 h18=>?_)
 ·exact an fol [.r [],.c true,.r [(6,{m:=3})],.r []] [1,2,4,5] [2,4,5] (aI c64 (ix 0 4 (ix 1 4 (aI (leI 0 2) (ltI 2 4))))) (hc1 (w64 (n_1-64)) [0,List.getD a_12 0 0,List.getD a_12 1 0,List.getD a_12 2 0] h17)
 ·exact aq fol [.r [],.c false] [1,2,4,5] [2,4,5] c64 (At.loop N (At.loopN (fun y:Int×(List Int)=>Zak.p2.S y.1 y.2 st) (fun c J hc y h=>Zak.p2_ok (n_13:=y.1) (a_18:=y.2) h hE (fun n_13 a_18=>hc (n_13,a_18))) N (n_1,a_12) h18))
theorem Zak.snd {a_0_0:List Int} {n_1:Int} {r:(List Int)} (h:Zak N a_0_0 n_1=some r):SndQ Tryz.prog 125 [.agg [L.arr .u64 4 a_0_0],oI n_1] (Zak.rs r):=fun st=>
 sO Zak.B Tryz.func125 fun g0 w0 R hE=>by
  unfold Zak at h
  refine iteB h (fun c1 h19=>?_) (fun c1 h20=>?_)
  ·obtain rfl:=Zac h19
   exact af fol hE [.r [],.r [],.r [(3,wF),(4,wF)],.c true,.r []] [] 0 [] (aK c1 c1 c1 eT)
  ·refine iteB h20 (fun c2 h21=>?_) (fun c2 h22=>?_)
   ·obtain rfl:=Zac h21
    exact af fol hE [.r [],.r [],.r [(5,yF)],.c true,.r []] [] 0 [] (aK c1 c1 c1 c2)
   ·exact aq fol [.r [],.r [],.r [(5,yF)],.c false] [1,2,4,5] [2,4,5] (aK c1 c1 c1 c2) (At.loop N (At.loopN (fun y:Int×(List Int)=>Zak.p1.S y.1 y.2 st) (fun c J hc y h=>Zak.p1_ok (n_1:=y.1) (a_12:=y.2) h hE (fun n_1 a_12=>hc (n_1,a_12))) N (n_1,a_0_0) h22))
noncomputable def ZaD.B:Code:=Tryz.f100.body.getD .skip
noncomputable def ZaD.rs (r:(List Int)×Bool×Bool):List CV:=[.agg [L.arr .u64 4 r.1],oB r.2.1,oB r.2.2]
noncomputable def ZaD.p1 (N:Nat) (bits_0:Int) (over_2:Bool) (x1:List Int):Option ((List Int)×Bool×Bool):=
 if (decide ((Int.tmod bits_0 8388608)>0))=true then
  some (x1,(Int.tmod (w64 (Int.tdiv bits_0 8388608)) 2)==1,over_2)
 else
 some (x1,false,over_2)
noncomputable def ZaD (N:Nat) (bits_0:Int):Option ((List Int)×Bool×Bool):=
 if (decide (bits_0<0))=true then
  some (List.replicate 4 0,false,false)
 else
 if (decide (bits_0>4294967295))=true then
  some (List.replicate 4 0,false,false)
 else
 optE (Zak N [v64 (Int.tmod bits_0 8388608),0,0,0] (w64 (8*(w64 ((w64 (Int.tdiv bits_0 16777216))-3))))) fun x1=>
 if (decide ((Int.tmod bits_0 8388608)>0))=true then
  if (decide ((w64 (Int.tdiv bits_0 16777216))>34))=true then
   ZaD.p1 N bits_0 true x1
  else
  if (decide ((Int.tmod bits_0 8388608)>255))=true then
   if (decide ((w64 (Int.tdiv bits_0 16777216))>33))=true then
    ZaD.p1 N bits_0 true x1
   else
   if (decide ((Int.tmod bits_0 8388608)>65535))=true then
    ZaD.p1 N bits_0 (decide ((w64 (Int.tdiv bits_0 16777216))>32)) x1
   else
   ZaD.p1 N bits_0 false x1
  else
  if (decide ((Int.tmod bits_0 8388608)>65535))=true then
   ZaD.p1 N bits_0 (decide ((w64 (Int.tdiv bits_0 16777216))>32)) x1
  else
  ZaD.p1 N bits_0 false x1
 else
 if (decide ((Int.tmod bits_0 8388608)>255))=true then
  if (decide ((w64 (Int.tdiv bits_0 16777216))>33))=true then
   ZaD.p1 N bits_0 true x1
  else
  if (decide ((Int.tmod bits_0 8388608)>65535))=true then
   ZaD.p1 N bits_0 (decide ((w64 (Int.tdiv bits_0 16777216))>32)) x1
  else
  ZaD.p1 N bits_0 false x1
 else
 if (decide ((Int.tmod bits_0 8388608)>65535))=true then
  ZaD.p1 N bits_0 (decide ((w64 (Int.tdiv bits_0 16777216))>32)) x1
 else
 ZaD.p1 N bits_0 false x1
noncomputable def ZaD.p1.S (bits_0:Int) (over_2:Bool) (x1:List Int) (st:LL):S:=mkS 61 [(2,sA 2),(6,sI (Int.tmod bits_0 8388608)),(7,.one (.l (L.bool ((Int.tmod (w64 (Int.tdiv bits_0 8388608)) 2)==1)))),(8,sA 8),(9,.one (.l (L.bool over_2)))] [(2,.cells [L.arr .u64 4 (List.replicate 4 0)]),(8,.cells [L.arr .u64 4 x1])] st
theorem ZaD.p1_ok {bits_0 over_2 x1 st r} (h:ZaD.p1 N bits_0 over_2 x1=some r) (hE:En Tryz.f100 g0 w0 (ZaD.rs r) st R):At g0 w0 (ZaD.p1.S bits_0 over_2 x1 st) (XK Tryz.prog R [.c (csub ZaD.B [1,1,1,1,1,1,1])]):=by
 unfold ZaD.p1 at h
 refine iteB h (fun c14 h1=>?_) (fun c14 h2=>?_)
 ·obtain rfl:=Zac h1
  exact af fol hE [.r []] [] 0 [] (aI c14 c14)
 ·obtain rfl:=Zac h2
  exact af fol hE [.r [(4,wF),(5,yF)]] [] 0 [] (aI c14 c14)
theorem ZaD.snd {bits_0:Int} {r:(List Int)×Bool×Bool} (h:ZaD N bits_0=some r):SndQ Tryz.prog 100 [oI bits_0] (ZaD.rs r):=fun st=>
 sO ZaD.B Tryz.func100 fun g0 w0 R hE=>by
  unfold ZaD at h
  refine iteB h (fun c1 h3=>?_) (fun c1 h4=>?_)
  ·obtain rfl:=Zac h3
   exact af fol hE [.r [],.r [(3,wF),(4,wF)],.c true,.r []] [] 0 [] (aK c1 c1 c1 eT)
  ·refine iteB h4 (fun c2 h5=>?_) (fun c2 h6=>?_)
   ·obtain rfl:=Zac h5
    exact af fol hE [.r [],.r [(5,yF)],.c true,.r []] [] 0 [] (aK c1 c1 c1 c2)
   ·obtain ⟨x1,c3,h7⟩:=Zad h6
    refine iteB h7 (fun c4 h8=>?_) (fun c4 h9=>?_)
    ·refine iteB h8 (fun c5 h10=>?_) (fun c5 h11=>?_)
     ·exact aq fol [.r [],.r [(5,yF)],.c false,.r [],.r [],.r [],.r [(2,{m:=3}),(6,q1 [.agg [L.arr .u64 4 x1]])],.r [(7,wF),(8,wF),(9,wF),(12,wF),(15,wF),(16,wF),(17,wF),(20,wF)],.s 1] [2,6,7,8,9] [2,8] (aO c1 c1 c1 c2 (neI 16777216) (neI 8388608) (neI 8388608) (aO (neI 2) (Zak.snd c3) c4 c4 c4 c5 c5 (aO c5 c5 c5 eT eT eT eT eT))) (ZaD.p1_ok h10 hE)
     ·refine iteB h11 (fun c6 h12=>?_) (fun c6 h13=>?_)
      ·refine iteB h12 (fun c7 h14=>?_) (fun c7 h15=>?_)
       ·exact aq fol [.r [],.r [(5,yF)],.c false,.r [],.r [],.r [],.r [(2,{m:=3}),(6,q1 [.agg [L.arr .u64 4 x1]])],.r [(13,yF),(15,wF),(16,wF),(17,wF),(20,wF)],.s 1] [2,6,7,8,9] [2,8] (aO c1 c1 c1 c2 (neI 16777216) (neI 8388608) (neI 8388608) (aO (neI 2) (Zak.snd c3) c4 c4 c4 c5 c5 (aO c5 c6 c6 c5 c6 c5 c7 (aK c7 c7 c7 c7)))) (ZaD.p1_ok h14 hE)
       ·refine iteB h15 (fun c8 h16=>?_) (fun c8 h17=>?_)
        ·exact aq fol [.r [],.r [(5,yF)],.c false,.r [],.r [],.r [],.r [(2,{m:=3}),(6,q1 [.agg [L.arr .u64 4 x1]])],.r [(13,yF),(21,yF)],.s 1] [2,6,7,8,9] [2,8] (aO c1 c1 c1 c2 (neI 16777216) (neI 8388608) (neI 8388608) (aO (neI 2) (Zak.snd c3) c4 c4 c4 c5 c5 (aO c5 c6 c6 c5 c6 c5 c7 (aN c7 c7 c8 c8 c7 c8 c7)))) (ZaD.p1_ok h16 hE)
        ·exact aq fol [.r [],.r [(5,yF)],.c false,.r [],.r [],.r [],.r [(2,{m:=3}),(6,q1 [.agg [L.arr .u64 4 x1]])],.r [(13,yF),(18,wF),(19,wF),(20,yF),(21,yF)],.s 1] [2,6,7,8,9] [2,8] (aO c1 c1 c1 c2 (neI 16777216) (neI 8388608) (neI 8388608) (aO (neI 2) (Zak.snd c3) c4 c4 c4 c5 c5 (aO c5 c6 c6 c5 c6 c5 c7 (aN c7 c7 c8 c8 c7 c8 c7)))) (ZaD.p1_ok h17 hE)
      ·refine iteB h13 (fun c9 h18=>?_) (fun c9 h19=>?_)
       ·exact aq fol [.r [],.r [(5,yF)],.c false,.r [],.r [],.r [],.r [(2,{m:=3}),(6,q1 [.agg [L.arr .u64 4 x1]])],.r [(10,wF),(11,wF),(12,yF),(13,yF),(21,yF)],.s 1] [2,6,7,8,9] [2,8] (aO c1 c1 c1 c2 (neI 16777216) (neI 8388608) (neI 8388608) (aO (neI 2) (Zak.snd c3) c4 c4 c4 c5 c5 (aO c5 c6 c6 c5 c6 c5 eF (aN eF eF c9 c9 eF c9 eF)))) (ZaD.p1_ok h18 hE)
       ·exact aq fol [.r [],.r [(5,yF)],.c false,.r [],.r [],.r [],.r [(2,{m:=3}),(6,q1 [.agg [L.arr .u64 4 x1]])],.r [(10,wF),(11,wF),(12,yF),(13,yF),(18,wF),(19,wF),(20,yF),(21,yF)],.s 1] [2,6,7,8,9] [2,8] (aO c1 c1 c1 c2 (neI 16777216) (neI 8388608) (neI 8388608) (aO (neI 2) (Zak.snd c3) c4 c4 c4 c5 c5 (aO c5 c6 c6 c5 c6 c5 eF (aN eF eF c9 c9 eF c9 eF)))) (ZaD.p1_ok h19 hE)
    ·refine iteB h9 (fun c10 h20=>?_) (fun c10 h21=>?_)
     ·refine iteB h20 (fun c11 h22=>?_) (fun c11 h23=>?_)
      ·exact aq fol [.r [],.r [(5,yF)],.c false,.r [],.r [],.r [],.r [(2,{m:=3}),(6,q1 [.agg [L.arr .u64 4 x1]])],.r [(3,wF),(4,wF),(5,yF),(13,yF),(15,wF),(16,wF),(17,wF),(20,wF)],.s 1] [2,6,7,8,9] [2,8] (aO c1 c1 c1 c2 (neI 16777216) (neI 8388608) (neI 8388608) (aO (neI 2) (Zak.snd c3) c4 c4 c4 eF eF (aO eF c10 c10 eF c10 eF c11 (aK c11 c11 c11 c11)))) (ZaD.p1_ok h22 hE)
      ·refine iteB h23 (fun c12 h24=>?_) (fun c12 h25=>?_)
       ·exact aq fol [.r [],.r [(5,yF)],.c false,.r [],.r [],.r [],.r [(2,{m:=3}),(6,q1 [.agg [L.arr .u64 4 x1]])],.r [(3,wF),(4,wF),(5,yF),(13,yF),(21,yF)],.s 1] [2,6,7,8,9] [2,8] (aO c1 c1 c1 c2 (neI 16777216) (neI 8388608) (neI 8388608) (aO (neI 2) (Zak.snd c3) c4 c4 c4 eF eF (aO eF c10 c10 eF c10 eF c11 (aN c11 c11 c12 c12 c11 c12 c11)))) (ZaD.p1_ok h24 hE)
       ·exact aq fol [.r [],.r [(5,yF)],.c false,.r [],.r [],.r [],.r [(2,{m:=3}),(6,q1 [.agg [L.arr .u64 4 x1]])],.r [(3,wF),(4,wF),(5,yF),(13,yF),(18,wF),(19,wF),(20,yF),(21,yF)],.s 1] [2,6,7,8,9] [2,8] (aO c1 c1 c1 c2 (neI 16777216) (neI 8388608) (neI 8388608) (aO (neI 2) (Zak.snd c3) c4 c4 c4 eF eF (aO eF c10 c10 eF c10 eF c11 (aN c11 c11 c12 c12 c11 c12 c11)))) (ZaD.p1_ok h25 hE)
     ·refine iteB h21 (fun c13 h26=>?_) (fun c13 h27=>?_)
      ·exact aq fol [.r [],.r [(5,yF)],.c false,.r [],.r [],.r [],.r [(2,{m:=3}),(6,q1 [.agg [L.arr .u64 4 x1]])],.r [(3,wF),(4,wF),(5,yF),(10,wF),(11,wF),(12,yF),(13,yF),(21,yF)],.s 1] [2,6,7,8,9] [2,8] (aO c1 c1 c1 c2 (neI 16777216) (neI 8388608) (neI 8388608) (aO (neI 2) (Zak.snd c3) c4 c4 c4 eF eF (aO eF c10 c10 eF c10 eF eF (aN eF eF c13 c13 eF c13 eF)))) (ZaD.p1_ok h26 hE)
      ·exact aq fol [.r [],.r [(5,yF)],.c false,.r [],.r [],.r [],.r [(2,{m:=3}),(6,q1 [.agg [L.arr .u64 4 x1]])],.r [(3,wF),(4,wF),(5,yF),(10,wF),(11,wF),(12,yF),(13,yF),(18,wF),(19,wF),(20,yF),(21,yF)],.s 1] [2,6,7,8,9] [2,8] (aO c1 c1 c1 c2 (neI 16777216) (neI 8388608) (neI 8388608) (aO (neI 2) (Zak.snd c3) c4 c4 c4 eF eF (aO eF c10 c10 eF c10 eF eF (aN eF eF c13 c13 eF c13 eF)))) (ZaD.p1_ok h27 hE)
noncomputable def Zcd.B:Code:=Tryz.f124.body.getD .skip
noncomputable def Zcd.rs (r:Int):List CV:=[oI r]
noncomputable def Zcd (N:Nat) (a_0_0:List Int) (i_1:Int):Option Int:=
 if (decide (i_1<0))=true then
  some 0
 else
 if (decide (i_1>255))=true then
  some 0
 else
 chk (0≤(w64 (Int.tdiv i_1 64)))<|
 chk ((w64 (Int.tdiv i_1 64))<4)<|
 chk (0≤(v64 (Int.tmod i_1 64)))<|
 some (w64 (Int.tmod (shrOf .u64 (List.getD a_0_0 (Int.toNat (w64 (Int.tdiv i_1 64))) 0) (v64 (Int.tmod i_1 64))) 2))
theorem Zcd.snd {a_0_0:List Int} {i_1:Int} {r:Int} (h:Zcd N a_0_0 i_1=some r):SndQ Tryz.prog 124 [.agg [L.arr .u64 4 a_0_0],oI i_1] (Zcd.rs r):=fun st=>
 sO Zcd.B Tryz.func124 fun g0 w0 R hE=>by
  unfold Zcd at h
  refine iteB h (fun c1 h1=>?_) (fun c1 h2=>?_)
  ·obtain rfl:=Zac h1
   exact af fol hE [.r [],.r [(3,wF),(4,wF)],.c true,.r []] [] 0 [] (aK c1 c1 c1 eT)
  ·refine iteB h2 (fun c2 h3=>?_) (fun c2 h4=>?_)
   ·obtain rfl:=Zac h3
    exact af fol hE [.r [],.r [(5,yF)],.c true,.r []] [] 0 [] (aK c1 c1 c1 c2)
   ·obtain ⟨c3,c4,c5,h5⟩:=ck3 h4
    obtain rfl:=Zac h5
    exact af fol hE [.r [],.r [(5,yF)],.c false,.r []] [] 0 [] (aO c1 c1 c1 c2 (neI 64) c3 c4 (aJ (neI 64) c5 (neI 2)))
noncomputable def Zbe.B:Code:=Tryz.f96.body.getD .skip
noncomputable def Zbe.rs (r:Bool):List CV:=[oB r]
noncomputable def Zbe.p1 (N:Nat) (a_0_0 b_1_0:List Int) (c1_:Int→Option Bool):Int→Option Bool:=fun i_1=>
 if (decide (i_1≥0))=true then
  optE (Zcd N a_0_0 i_1) fun x2=>
  optE (Zcd N b_1_0 i_1) fun x3=>
  if (x2 != x3)=true then
   some (decide (x2<x3))
  else
  c1_ (w64 (i_1-1))
 else
 some false
noncomputable def Zbe (N:Nat) (a_0_0 b_1_0:List Int):Option Bool:=
 loopN (Zbe.p1 N a_0_0 b_1_0) N 255
noncomputable def Zbe.p1.S (i_1:Int) (a_0_0 b_1_0:List Int) (st:LL):S:=mkS 24 [(2,sA 2),(3,sA 3),(5,sI i_1)] [(2,.cells [L.arr .u64 4 a_0_0]),(3,.cells [L.arr .u64 4 b_1_0])] st
theorem Zbe.p1_ok {i_1 a_0_0 b_1_0 st r c1_ J1} (h:Zbe.p1 N a_0_0 b_1_0 c1_ i_1=some r) (hE:En Tryz.f96 g0 w0 (Zbe.rs r) st R) (hc1 : ∀i_1,c1_ i_1=some r→At g0 w0 (Zbe.p1.S i_1 a_0_0 b_1_0 st) J1):At g0 w0 (Zbe.p1.S i_1 a_0_0 b_1_0 st) (XK Tryz.prog R (.c (csub Zbe.B [1,0,1,0,0]) :: .h J1 :: [.b 0,.c (csub Zbe.B [1,1])])):=by
 unfold Zbe.p1 at h
 refine iteB h (fun c1 h1=>?_) (fun c1 h2=>?_)
 ·obtain ⟨x2,c2,h3⟩:=Zad h1
  obtain ⟨x3,c3,h4⟩:=Zad h3
  refine iteB h4 (fun c4 h5=>?_) (fun c4 h6=>?_)
  ·obtain rfl:=Zac h5
   exact afd fol hE [.r [],.c true,.d {ds:=[(2,q1 [oI x2]),(5,q1 [oI x3])],hv:=0,Hs:=[]},.c true,.d {ds:=[(2,q1 [oI x2]),(5,q1 [oI x3])],hv:=0,Hs:=[]}] [] 0 [] (aM c1 (Zcd.snd c2) (Zcd.snd c3) c4 (Zcd.snd c2) (Zcd.snd c3))
  ·exact and_ fol [.r [],.c true,.d {ds:=[(2,q1 [oI x2]),(5,q1 [oI x3])],hv:=0,Hs:=[]},.c false,.r []] [2,3,5] [2,3] (aK c1 (Zcd.snd c2) (Zcd.snd c3) c4) (hc1 (w64 (i_1-1)) h6)
 ·obtain rfl:=Zac h2
  exact af fol hE [.r [],.c false,.r []] [] 0 [] c1
theorem Zbe.snd {a_0_0 b_1_0:List Int} {r:Bool} (h:Zbe N a_0_0 b_1_0=some r):SndQ Tryz.prog 96 [.agg [L.arr .u64 4 a_0_0],.agg [L.arr .u64 4 b_1_0]] (Zbe.rs r):=fun st=>
 sO Zbe.B Tryz.func96 fun g0 w0 R hE=>by
  unfold Zbe at h
  exact aq fol [.r [],.r []] [2,3,5] [2,3] trivial (At.loop N (At.loopN (fun y:Int=>Zbe.p1.S y a_0_0 b_1_0 st) (fun c J hc y h=>Zbe.p1_ok h hE (fun i_1=>hc i_1)) N 255 h))
noncomputable def Zbi.B:Code:=Tryz.f95.body.getD .skip
noncomputable def Zbi.rs (r:(List Int)×Bool):List CV:=[.agg [L.arr .u64 4 r.1],oB r.2]
noncomputable def Zbi (N:Nat) (bits_0 limit_1:Int):Option ((List Int)×Bool):=
 optE (ZaD N bits_0) fun (x1,x2,x3)=>
 optE (ZaD N limit_1) fun (x4,x5,x6)=>
 if x2=true then
  some (List.replicate 4 0,false)
 else
 if x3=true then
  some (List.replicate 4 0,false)
 else
 if x5=true then
  some (List.replicate 4 0,false)
 else
 if x6=true then
  some (List.replicate 4 0,false)
 else
 if (x1==(List.replicate 4 0))=true then
  some (List.replicate 4 0,false)
 else
 optE (Zbe N x4 x1) fun x7=>
 if x7=true then
  some (List.replicate 4 0,false)
 else
 some (x1,true)
theorem Zbi.snd {bits_0 limit_1:Int} {r:(List Int)×Bool} (h:Zbi N bits_0 limit_1=some r):SndQ Tryz.prog 95 [oI bits_0,oI limit_1] (Zbi.rs r):=fun st=>
 sO Zbi.B Tryz.func95 fun g0 w0 R hE=>by
  unfold Zbi at h
  obtain ⟨⟨x1,x2,x3⟩,c1,h1⟩:=Zad h
  obtain ⟨⟨x4,x5,x6⟩,c2,h2⟩:=Zad h1
  refine iteB h2 (fun c3 h3=>?_) (fun c3 h4=>?_)
  ·obtain rfl:=Zac h3
   exact af fol hE [.r [],.r [(1,q1 [.agg [L.arr .u64 4 x1],oB x2,oB x3])],.r [(1,q1 [.agg [L.arr .u64 4 x4],oB x5,oB x6])],.r [(2,wF),(5,wF),(8,wF),(11,wF),(12,wF),(13,wF),(16,wF),(17,wF),(18,wF)],.c true,.r []] [] 0 [] (aO (ZaD.snd c1) (ZaD.snd c2) c3 c3 eT eT eT (aO eT eT eT eT eT eT eT (aJ eT eT eT)))
  ·refine iteB h4 (fun c4 h5=>?_) (fun c4 h6=>?_)
   ·obtain rfl:=Zac h5
    exact af fol hE [.r [],.r [(1,q1 [.agg [L.arr .u64 4 x1],oB x2,oB x3])],.r [(1,q1 [.agg [L.arr .u64 4 x4],oB x5,oB x6])],.r [(3,yF),(5,wF),(8,wF),(11,wF),(12,wF),(13,wF),(16,wF),(17,wF),(18,wF)],.c true,.r []] [] 0 [] (aO (ZaD.snd c1) (ZaD.snd c2) c3 c3 c4 c4 eT (aO eT eT eT eT eT eT eT (aJ eT eT eT)))
   ·refine iteB h6 (fun c5 h7=>?_) (fun c5 h8=>?_)
    ·obtain rfl:=Zac h7
     exact af fol hE [.r [],.r [(1,q1 [.agg [L.arr .u64 4 x1],oB x2,oB x3])],.r [(1,q1 [.agg [L.arr .u64 4 x4],oB x5,oB x6])],.r [(3,yF),(6,yF),(8,wF),(11,wF),(12,wF),(13,wF),(16,wF),(17,wF),(18,wF)],.c true,.r []] [] 0 [] (aO (ZaD.snd c1) (ZaD.snd c2) c3 c3 c4 c4 c5 (aO c5 eT eT eT eT eT eT (aJ eT eT eT)))
    ·refine iteB h8 (fun c6 h9=>?_) (fun c6 h10=>?_)
     ·obtain rfl:=Zac h9
      exact af fol hE [.r [],.r [(1,q1 [.agg [L.arr .u64 4 x1],oB x2,oB x3])],.r [(1,q1 [.agg [L.arr .u64 4 x4],oB x5,oB x6])],.r [(3,yF),(6,yF),(9,yF),(11,wF),(12,wF),(13,wF),(16,wF),(17,wF),(18,wF)],.c true,.r []] [] 0 [] (aO (ZaD.snd c1) (ZaD.snd c2) c3 c3 c4 c4 c5 (aO c5 c6 c6 c6 c6 eT eT (aJ eT eT eT)))
     ·refine iteB h10 (fun c7 h11=>?_) (fun c7 h12=>?_)
      ·obtain rfl:=Zac h11
       exact af fol hE [.r [],.r [(1,q1 [.agg [L.arr .u64 4 x1],oB x2,oB x3])],.r [(1,q1 [.agg [L.arr .u64 4 x4],oB x5,oB x6])],.r [(3,yF),(6,yF),(9,yF),(14,yF),(16,wF),(17,wF),(18,wF)],.c true,.r []] [] 0 [] (aO (ZaD.snd c1) (ZaD.snd c2) c3 c3 c4 c4 c5 (aO c5 c6 c6 c6 c6 c7 c7 (aJ c7 c7 eT)))
      ·obtain ⟨x7,c8,h13⟩:=Zad h12
       refine iteB h13 (fun c9 h14=>?_) (fun c9 h15=>?_)
       ·obtain rfl:=Zac h14
        exact af fol hE [.r [],.r [(1,q1 [.agg [L.arr .u64 4 x1],oB x2,oB x3])],.r [(1,q1 [.agg [L.arr .u64 4 x4],oB x5,oB x6])],.r [(3,yF),(6,yF),(9,yF),(14,yF),(18,q1 [oB x7]),(19,yF)],.c true,.r []] [] 0 [] (aO (ZaD.snd c1) (ZaD.snd c2) c3 c3 c4 c4 c5 (aO c5 c6 c6 c6 c6 c7 c7 (aK c7 (Zbe.snd c8) c7 c9)))
       ·obtain rfl:=Zac h15
        exact af fol hE [.r [],.r [(1,q1 [.agg [L.arr .u64 4 x1],oB x2,oB x3])],.r [(1,q1 [.agg [L.arr .u64 4 x4],oB x5,oB x6])],.r [(3,yF),(6,yF),(9,yF),(14,yF),(18,q1 [oB x7]),(19,yF)],.c false,.r []] [] 0 [] (aO (ZaD.snd c1) (ZaD.snd c2) c3 c3 c4 c4 c5 (aO c5 c6 c6 c6 c6 c7 c7 (aK c7 (Zbe.snd c8) c7 c9)))
noncomputable def Zcw.B:Code:=Tryz.f65.body.getD .skip
noncomputable def Zcw.rs (r:Bool):List CV:=[oB r]
noncomputable def Zcw (N:Nat) (p_0:Zaf):Option Bool:=
 optE (Zbi N p_0.Limit p_0.Limit) fun (x1,x2)=>
 if x2=true then
  if (decide (p_0.Interval≥2))=true then
   if (decide (p_0.Interval≤64))=true then
    if (decide (p_0.Spacing≥1))=true then
     if (decide (p_0.Spacing≤10000))=true then
      if (decide (p_0.Future≥0))=true then
       some (decide (p_0.Future<4294967296))
      else
      some false
     else
     some false
    else
    some false
   else
   some false
  else
  some false
 else
 some false
theorem Zcw.snd {p_0:Zaf} {r:Bool} (h:Zcw N p_0=some r):SndQ Tryz.prog 65 [.agg p_0.ls] (Zcw.rs r):=fun st=>
 sO Zcw.B Tryz.func65 fun g0 w0 R hE=>by
  unfold Zcw at h
  obtain ⟨⟨x1,x2⟩,c1,h1⟩:=Zad h
  refine iteB h1 (fun c2 h2=>?_) (fun c2 h3=>?_)
  ·refine iteB h2 (fun c3 h4=>?_) (fun c3 h5=>?_)
   ·refine iteB h4 (fun c4 h6=>?_) (fun c4 h7=>?_)
    ·refine iteB h6 (fun c5 h8=>?_) (fun c5 h9=>?_)
     ·refine iteB h8 (fun c6 h10=>?_) (fun c6 h11=>?_)
      ·refine iteB h10 (fun c7 h12=>?_) (fun c7 h13=>?_)
       ·obtain rfl:=Zac h12
        exact af fol hE [.r [],.r [(4,q1 [.agg [L.arr .u64 4 x1],oB x2])],.r []] [] 0 [] (aO (Zbi.snd c1) c2 c2 c2 c2 c3 c3 (aO c3 c3 c4 c4 c4 c4 c5 (aO c5 c5 c5 c6 c6 c6 c6 (aK c7 c7 c7 c7))))
       ·obtain rfl:=Zac h13
        exact af fol hE [.r [],.r [(4,q1 [.agg [L.arr .u64 4 x1],oB x2])],.r [(27,wF),(28,wF),(29,wF),(30,yF)]] [] 0 [] (aO (Zbi.snd c1) c2 c2 c2 c2 c3 c3 (aO c3 c3 c4 c4 c4 c4 c5 (aO c5 c5 c5 c6 c6 c6 c6 (aK c7 c7 c7 c7))))
      ·obtain rfl:=Zac h11
       exact af fol hE [.r [],.r [(4,q1 [.agg [L.arr .u64 4 x1],oB x2])],.r [(22,wF),(23,wF),(24,wF),(25,yF),(27,wF),(28,wF),(29,wF),(30,yF)]] [] 0 [] (aO (Zbi.snd c1) c2 c2 c2 c2 c3 c3 (aO c3 c3 c4 c4 c4 c4 c5 (aO c5 c5 c5 c6 c6 c6 c6 (aK eF eF eF eF))))
     ·obtain rfl:=Zac h9
      exact af fol hE [.r [],.r [(4,q1 [.agg [L.arr .u64 4 x1],oB x2])],.r [(17,wF),(18,wF),(19,wF),(20,yF),(22,wF),(23,wF),(24,wF),(25,yF),(27,wF),(28,wF),(29,wF),(30,yF)]] [] 0 [] (aO (Zbi.snd c1) c2 c2 c2 c2 c3 c3 (aO c3 c3 c4 c4 c4 c4 c5 (aO c5 c5 c5 eF eF eF eF (aK eF eF eF eF))))
    ·obtain rfl:=Zac h7
     exact af fol hE [.r [],.r [(4,q1 [.agg [L.arr .u64 4 x1],oB x2])],.r [(12,wF),(13,wF),(14,wF),(15,yF),(17,wF),(18,wF),(19,wF),(20,yF),(22,wF),(23,wF),(24,wF),(25,yF),(27,wF),(28,wF),(29,wF),(30,yF)]] [] 0 [] (aO (Zbi.snd c1) c2 c2 c2 c2 c3 c3 (aO c3 c3 c4 c4 c4 c4 eF (aO eF eF eF eF eF eF eF (aK eF eF eF eF))))
   ·obtain rfl:=Zac h5
    exact af fol hE [.r [],.r [(4,q1 [.agg [L.arr .u64 4 x1],oB x2])],.r [(7,wF),(8,wF),(9,wF),(10,yF),(12,wF),(13,wF),(14,wF),(15,yF),(17,wF),(18,wF),(19,wF),(20,yF),(22,wF),(23,wF),(24,wF),(25,yF),(27,wF),(28,wF),(29,wF),(30,yF)]] [] 0 [] (aO (Zbi.snd c1) c2 c2 c2 c2 c3 c3 (aO c3 c3 eF eF eF eF eF (aO eF eF eF eF eF eF eF (aK eF eF eF eF))))
  ·obtain rfl:=Zac h3
   exact af fol hE [.r [],.r [(4,q1 [.agg [L.arr .u64 4 x1],oB x2])],.r [(2,wF),(3,wF),(4,wF),(5,yF),(7,wF),(8,wF),(9,wF),(10,yF),(12,wF),(13,wF),(14,wF),(15,yF),(17,wF),(18,wF),(19,wF),(20,yF),(22,wF),(23,wF),(24,wF),(25,yF),(27,wF),(28,wF),(29,wF),(30,yF)]] [] 0 [] (aO (Zbi.snd c1) c2 c2 c2 c2 eF eF (aO eF eF eF eF eF eF eF (aO eF eF eF eF eF eF eF (aK eF eF eF eF))))
noncomputable def ZbQ.B:Code:=Tryz.f15.body.getD .skip
noncomputable def ZbQ.rs (r:Bool):List CV:=[oB r]
noncomputable def ZbQ (N:Nat) (h_0:Zai):Option Bool:=
 if (decide (h_0.Version≥(-2147483648)))=true then
  if (decide (h_0.Version≤2147483647))=true then
   if (decide (h_0.Time≥0))=true then
    if (decide (h_0.Time<4294967296))=true then
     if (decide (h_0.Bits≥0))=true then
      if (decide (h_0.Bits<4294967296))=true then
       if (decide (h_0.Nonce≥0))=true then
        some (decide (h_0.Nonce<4294967296))
       else
       some false
      else
      some false
     else
     some false
    else
    some false
   else
   some false
  else
  some false
 else
 some false
theorem ZbQ.snd {h_0:Zai} {r:Bool} (h:ZbQ N h_0=some r):SndQ Tryz.prog 15 [.agg h_0.ls] (ZbQ.rs r):=fun st=>
 sO ZbQ.B Tryz.func15 fun g0 w0 R hE=>by
  unfold ZbQ at h
  refine iteB h (fun c1 h1=>?_) (fun c1 h2=>?_)
  ·refine iteB h1 (fun c2 h3=>?_) (fun c2 h4=>?_)
   ·refine iteB h3 (fun c3 h5=>?_) (fun c3 h6=>?_)
    ·refine iteB h5 (fun c4 h7=>?_) (fun c4 h8=>?_)
     ·refine iteB h7 (fun c5 h9=>?_) (fun c5 h10=>?_)
      ·refine iteB h9 (fun c6 h11=>?_) (fun c6 h12=>?_)
       ·refine iteB h11 (fun c7 h13=>?_) (fun c7 h14=>?_)
        ·obtain rfl:=Zac h13
         exact af fol hE [.r [],.r [],.r []] [] 0 [] (aO c1 c1 c1 c1 c2 c2 c2 (aO c2 c3 c3 c3 c3 c3 c4 (aO c4 c4 c4 c5 c5 c5 c5 (aO c5 c6 c6 c6 c6 c7 c7 (aJ c7 c7 c7)))))
        ·obtain rfl:=Zac h14
         exact af fol hE [.r [],.r [],.r [(36,wF),(37,wF),(38,wF),(39,wF),(40,yF)]] [] 0 [] (aO c1 c1 c1 c1 c2 c2 c2 (aO c2 c3 c3 c3 c3 c3 c4 (aO c4 c4 c4 c5 c5 c5 c5 (aO c5 c6 c6 c6 c6 c7 c7 (aJ c7 c7 c7)))))
       ·obtain rfl:=Zac h12
        exact af fol hE [.r [],.r [],.r [(31,wF),(32,wF),(33,wF),(34,yF),(36,wF),(37,wF),(38,wF),(39,wF),(40,yF)]] [] 0 [] (aO c1 c1 c1 c1 c2 c2 c2 (aO c2 c3 c3 c3 c3 c3 c4 (aO c4 c4 c4 c5 c5 c5 c5 (aO c5 c6 c6 c6 c6 eF eF (aJ eF eF eF)))))
      ·obtain rfl:=Zac h10
       exact af fol hE [.r [],.r [],.r [(25,wF),(26,wF),(27,wF),(28,wF),(29,yF),(31,wF),(32,wF),(33,wF),(34,yF),(36,wF),(37,wF),(38,wF),(39,wF),(40,yF)]] [] 0 [] (aO c1 c1 c1 c1 c2 c2 c2 (aO c2 c3 c3 c3 c3 c3 c4 (aO c4 c4 c4 c5 c5 c5 c5 (aO c5 eF eF eF eF eF eF (aJ eF eF eF)))))
     ·obtain rfl:=Zac h8
      exact af fol hE [.r [],.r [],.r [(20,wF),(21,wF),(22,wF),(23,yF),(25,wF),(26,wF),(27,wF),(28,wF),(29,yF),(31,wF),(32,wF),(33,wF),(34,yF),(36,wF),(37,wF),(38,wF),(39,wF),(40,yF)]] [] 0 [] (aO c1 c1 c1 c1 c2 c2 c2 (aO c2 c3 c3 c3 c3 c3 c4 (aO c4 c4 c4 eF eF eF eF (aO eF eF eF eF eF eF eF (aJ eF eF eF)))))
    ·obtain rfl:=Zac h6
     exact af fol hE [.r [],.r [],.r [(14,wF),(15,wF),(16,wF),(17,wF),(18,yF),(20,wF),(21,wF),(22,wF),(23,yF),(25,wF),(26,wF),(27,wF),(28,wF),(29,yF),(31,wF),(32,wF),(33,wF),(34,yF),(36,wF),(37,wF),(38,wF),(39,wF),(40,yF)]] [] 0 [] (aO c1 c1 c1 c1 c2 c2 c2 (aO c2 c3 c3 c3 c3 c3 eF (aO eF eF eF eF eF eF eF (aO eF eF eF eF eF eF eF (aJ eF eF eF)))))
   ·obtain rfl:=Zac h4
    exact af fol hE [.r [],.r [],.r [(9,wF),(10,wF),(11,wF),(12,yF),(14,wF),(15,wF),(16,wF),(17,wF),(18,yF),(20,wF),(21,wF),(22,wF),(23,yF),(25,wF),(26,wF),(27,wF),(28,wF),(29,yF),(31,wF),(32,wF),(33,wF),(34,yF),(36,wF),(37,wF),(38,wF),(39,wF),(40,yF)]] [] 0 [] (aO c1 c1 c1 c1 c2 c2 c2 (aO c2 eF eF eF eF eF eF (aO eF eF eF eF eF eF eF (aO eF eF eF eF eF eF eF (aJ eF eF eF)))))
  ·obtain rfl:=Zac h2
   exact af fol hE [.r [],.r [],.r [(4,wF),(5,wF),(6,wF),(7,yF),(9,wF),(10,wF),(11,wF),(12,yF),(14,wF),(15,wF),(16,wF),(17,wF),(18,yF),(20,wF),(21,wF),(22,wF),(23,yF),(25,wF),(26,wF),(27,wF),(28,wF),(29,yF),(31,wF),(32,wF),(33,wF),(34,yF),(36,wF),(37,wF),(38,wF),(39,wF),(40,yF)]] [] 0 [] (aO c1 c1 c1 c1 eF eF eF (aO eF eF eF eF eF eF eF (aO eF eF eF eF eF eF eF (aO eF eF eF eF eF eF eF (aJ eF eF eF)))))
noncomputable def Zbf.B:Code:=Tryz.f21.body.getD .skip
noncomputable def Zbf.rs (r:Bool):List CV:=[oB r]
noncomputable def Zbf.p2 (N:Nat) (p_0:Zaf) (c2_:(Int×Int)→Option Bool):(Int×Int)→Option Bool:=fun (last_6,v7)=>
 if (decide (v7<(len p_0.Checks)))=true then
  chk (0≤v7)<|
  getE (p_0.Checks[Int.toNat v7]?) Zdz fun x8=>
  if (decide (x8.Height≤last_6))=true then
   some false
  else
  c2_ (x8.Height,w64 (v7+1))
 else
 some true
noncomputable def Zbf.p1 (N:Nat) (p_0:Zaf) (c1_:(Int×Int)→Option Bool):(Int×Int)→Option Bool:=fun (last_3,v4)=>
 if (decide (v4<(len p_0.Gates)))=true then
  chk (0≤v4)<|
  getE (p_0.Gates[Int.toNat v4]?) ZdH fun x5=>
  if (decide (x5.Height≤last_3))=true then
   some false
  else
  c1_ (x5.Height,w64 (v4+1))
 else
 loopN (Zbf.p2 N p_0) N (0,0)
noncomputable def Zbf (N:Nat) (p_0:Zaf):Option Bool:=
 optE (Zcw N p_0) fun x1=>
 if (!x1)=true then
  some false
 else
 optE (ZbQ N p_0.Genesis) fun x2=>
 if (!x2)=true then
  some false
 else
 loopN (Zbf.p1 N p_0) N ((-1),0)
noncomputable def Zbf.p2.S (last_6:Int) (p_0:Zaf) (v7:Int) (st:LL):S:=mkS 45 [(3,sI last_6),(32,sV 33 p_0.Checks),(33,sI (len p_0.Checks)),(34,sI v7)] [] st
noncomputable def Zbf.p1.S (last_3:Int) (p_0:Zaf) (v4:Int) (st:LL):S:=mkS 45 [(1,sA 1),(3,sI last_3),(18,sV 2 p_0.Gates),(19,sI (len p_0.Gates)),(20,sI v4)] [(1,.cells p_0.ls)] st
theorem Zbf.p2_ok {last_6 p_0 v7 st r c2_ J2} (h:Zbf.p2 N p_0 c2_ (last_6,v7)=some r) (hE:En Tryz.f21 g0 w0 (Zbf.rs r) st R) (hc2 : ∀last_6 v7,c2_ (last_6,v7)=some r→At g0 w0 (Zbf.p2.S last_6 p_0 v7 st) J2):At g0 w0 (Zbf.p2.S last_6 p_0 v7 st) (XK Tryz.prog R (.c (csub Zbf.B [1,1,1,1,1,0,1,0,0]) :: .h J2 :: [.b 2,.c (csub Zbf.B [1,1,1,1,1,1])])):=by
 unfold Zbf.p2 at h
 refine iteB h (fun c9 h1=>?_) (fun c9 h2=>?_)
 ·obtain ⟨c10,h3⟩:=ZaY h1
  obtain ⟨x8,c11,h4⟩:=ZdE h3
  refine iteB h4 (fun c12 h5=>?_) (fun c12 h6=>?_)
  ·obtain rfl:=Zac h5
   exact af fol hE [.r [],.c true,.r [(1,{oe:=x8.ls})],.r [],.c true,.r []] [] 0 [] (aL c9 c10 (oD c9) c11 c12)
  ·exact an fol [.r [],.c true,.r [(1,{oe:=x8.ls})],.r [],.c false,.r [],.r []] [3,32,33,34] [] (aL c9 c10 (oD c9) c11 c12) (hc2 x8.Height (w64 (v7+1)) h6)
 ·obtain rfl:=Zac h2
  exact af fol hE [.r [],.c false,.r []] [] 0 [] c9
theorem Zbf.p1_ok {last_3 p_0 v4 st r c1_ J1} (h:Zbf.p1 N p_0 c1_ (last_3,v4)=some r) (hE:En Tryz.f21 g0 w0 (Zbf.rs r) st R) (hc1 : ∀last_3 v4,c1_ (last_3,v4)=some r→At g0 w0 (Zbf.p1.S last_3 p_0 v4 st) J1):At g0 w0 (Zbf.p1.S last_3 p_0 v4 st) (XK Tryz.prog R (.c (csub Zbf.B [1,1,1,0,1,0,0]) :: .h J1 :: [.b 0,.c (csub Zbf.B [1,1,1,1])])):=by
 unfold Zbf.p1 at h
 refine iteB h (fun c5 h7=>?_) (fun c5 h8=>?_)
 ·obtain ⟨c6,h9⟩:=ZaY h7
  obtain ⟨x5,c7,h10⟩:=ZdK h9
  refine iteB h10 (fun c8 h11=>?_) (fun c8 h12=>?_)
  ·obtain rfl:=Zac h11
   exact af fol hE [.r [],.c true,.r [(1,{oe:=x5.ls})],.r [],.c true,.r []] [] 0 [] (aL c5 c6 (oD c5) c7 c8)
  ·exact an fol [.r [],.c true,.r [(1,{oe:=x5.ls})],.r [],.c false,.r [],.r []] [1,3,18,19,20] [1] (aL c5 c6 (oD c5) c7 c8) (hc1 x5.Height (w64 (v4+1)) h12)
 ·exact aq fol [.r [],.c false,.r [],.r []] [3,32,33,34] [] c5 (At.loop N (At.loopN (fun y:Int×Int=>Zbf.p2.S y.1 p_0 y.2 st) (fun c J hc y h=>Zbf.p2_ok (last_6:=y.1) (v7:=y.2) h hE (fun last_6 v7=>hc (last_6,v7))) N (0,0) h8))
theorem Zbf.snd {p_0:Zaf} {r:Bool} (h:Zbf N p_0=some r):SndQ Tryz.prog 21 [.agg p_0.ls] (Zbf.rs r):=fun st=>
 sO Zbf.B Tryz.func21 fun g0 w0 R hE=>by
  unfold Zbf at h
  obtain ⟨x1,c1,h13⟩:=Zad h
  refine iteB h13 (fun c2 h14=>?_) (fun c2 h15=>?_)
  ·obtain rfl:=Zac h14
   exact af fol hE [.r [],.r [(1,q1 [oB x1]),(4,wF),(5,wF),(6,wF),(7,wF)],.c true,.r []] [] 0 [] (aN (Zcw.snd c1) (not_false (ZbG c2)) (not_false (ZbG c2)) (not_false (ZbG c2)) (not_false (ZbG c2)) (not_false (ZbG c2)) eT)
  ·obtain ⟨x2,c3,h16⟩:=Zad h15
   refine iteB h16 (fun c4 h17=>?_) (fun c4 h18=>?_)
   ·obtain rfl:=Zac h17
    exact af fol hE [.r [],.r [(1,q1 [oB x1]),(6,q1 [oB x2]),(8,yF)],.c true,.r []] [] 0 [] (aO (Zcw.snd c1) (not_true (ZaF c2)) (not_true (ZaF c2)) (not_true (ZaF c2)) (ZbQ.snd c3) (not_true (ZaF c2)) (not_true (ZaF c2)) c4)
   ·exact aq fol [.r [],.r [(1,q1 [oB x1]),(6,q1 [oB x2]),(8,yF)],.c false,.r [],.r []] [1,3,18,19,20] [1] (aO (Zcw.snd c1) (not_true (ZaF c2)) (not_true (ZaF c2)) (not_true (ZaF c2)) (ZbQ.snd c3) (not_true (ZaF c2)) (not_true (ZaF c2)) c4) (At.loop N (At.loopN (fun y:Int×Int=>Zbf.p1.S y.1 p_0 y.2 st) (fun c J hc y h=>Zbf.p1_ok (last_3:=y.1) (v4:=y.2) h hE (fun last_3 v4=>hc (last_3,v4))) N ((-1),0) h18))
noncomputable def ZbF.B:Code:=Tryz.f40.body.getD .skip
noncomputable def ZbF.rs (r:Bool):List CV:=[oB r]
noncomputable def ZbF.p1 (N:Nat) (list_1:LL) (p_0:Zaf) (c1_:Int→Option Bool):Int→Option Bool:=fun v1=>
 if (decide (v1<(len list_1)))=true then
  chk (0≤v1)<|
  getE (list_1[Int.toNat v1]?) ZcS fun x2=>
  if (decide (x2.Now<0))=true then
   some true
  else
  c1_ (w64 (v1+1))
 else
 if (decide ((len p_0.Gates)>20))=true then
  some true
 else
 if (decide ((len p_0.Checks)>20))=true then
  some true
 else
 if (decide ((len list_1)>40))=true then
  some true
 else
 optE (Zbf N p_0) fun x3=>
 some (!x3)
noncomputable def ZbF (N:Nat) (p_0:Zaf) (list_1:LL):Option Bool:=
 loopN (ZbF.p1 N list_1 p_0) N 0
noncomputable def ZbF.p1.S (list_1:LL) (v1:Int) (p_0:Zaf) (st:LL):S:=mkS 37 [(1,sV 69 list_1),(2,sA 2),(7,sV 69 list_1),(8,sI (len list_1)),(9,sI v1)] [(2,.cells p_0.ls)] st
theorem ZbF.p1_ok {list_1 v1 p_0 st r c1_ J1} (h:ZbF.p1 N list_1 p_0 c1_ v1=some r) (hE:En Tryz.f40 g0 w0 (ZbF.rs r) st R) (hc1 : ∀v1,c1_ v1=some r→At g0 w0 (ZbF.p1.S list_1 v1 p_0 st) J1):At g0 w0 (ZbF.p1.S list_1 v1 p_0 st) (XK Tryz.prog R (.c (csub ZbF.B [1,0,1,0,0]) :: .h J1 :: [.b 0,.c (csub ZbF.B [1,1])])):=by
 unfold ZbF.p1 at h
 refine iteB h (fun c1 h1=>?_) (fun c1 h2=>?_)
 ·obtain ⟨c2,h3⟩:=ZaY h1
  obtain ⟨x2,c3,h4⟩:=ZdT h3
  refine iteB h4 (fun c4 h5=>?_) (fun c4 h6=>?_)
  ·obtain rfl:=Zac h5
   exact af fol hE [.r [],.c true,.r [(1,{oe:=x2.ls})],.r [],.c true,.r []] [] 0 [] (aL c1 c2 (oD c1) c3 c4)
  ·exact an fol [.r [],.c true,.r [(1,{oe:=x2.ls})],.r [],.c false,.r []] [1,2,7,8,9] [2] (aL c1 c2 (oD c1) c3 c4) (hc1 (w64 (v1+1)) h6)
 ·refine iteB h2 (fun c5 h7=>?_) (fun c5 h8=>?_)
  ·obtain rfl:=Zac h7
   exact af fol hE [.r [],.c false,.r [(5,wF),(6,wF),(7,wF),(8,wF),(11,wF),(12,wF),(13,wF),(16,wF),(17,wF),(18,wF)]] [] 0 [] (aO c1 c5 c5 c5 c5 c5 eT (aN eT eT eT eT eT eT eT))
  ·refine iteB h8 (fun c6 h9=>?_) (fun c6 h10=>?_)
   ·obtain rfl:=Zac h9
    exact af fol hE [.r [],.c false,.r [(9,yF),(11,wF),(12,wF),(13,wF),(16,wF),(17,wF),(18,wF)]] [] 0 [] (aO c1 c5 c5 c5 c5 c5 c6 (aN c6 c6 c6 eT eT eT eT))
   ·refine iteB h10 (fun c7 h11=>?_) (fun c7 h12=>?_)
    ·obtain rfl:=Zac h11
     exact af fol hE [.r [],.c false,.r [(9,yF),(14,yF),(16,wF),(17,wF),(18,wF)]] [] 0 [] (aO c1 c5 c5 c5 c5 c5 c6 (aN c6 c6 c6 c7 c7 c7 c7))
    ·obtain ⟨x3,c8,h13⟩:=Zad h12
     obtain rfl:=Zac h13
     exact af fol hE [.r [],.c false,.r [(9,yF),(14,yF),(17,q1 [oB x3]),(19,yF)]] [] 0 [] (aO c1 c5 c5 c5 c5 c5 c6 (aO c6 c6 c6 c7 c7 (Zbf.snd c8) c7 c7))
theorem ZbF.snd {p_0:Zaf} {list_1:LL} {r:Bool} (h:ZbF N p_0 list_1=some r):SndQ Tryz.prog 40 [.agg p_0.ls,.one (L.sl 69 list_1)] (ZbF.rs r):=fun st=>
 sO ZbF.B Tryz.func40 fun g0 w0 R hE=>by
  unfold ZbF at h
  exact aq fol [.r [],.r []] [1,2,7,8,9] [2] trivial (At.loop N (At.loopN (fun y:Int=>ZbF.p1.S list_1 y p_0 st) (fun c J hc y h=>ZbF.p1_ok h hE (fun v1=>hc v1)) N 0 h))
noncomputable def Zbh.B:Code:=Tryz.f107.body.getD .skip
noncomputable def Zbh.rs (r:ByteArray):List CV:=[.one (L.str r)]
noncomputable def Zbh.p1 (N:Nat) (size_0:Int) (c1_:(Int×ByteArray×Int)→Option ByteArray):(Int×ByteArray×Int)→Option ByteArray:=fun (u_1,s_3,i_2)=>
 if (decide (i_2<(if (8:Int)<(if (1:Int)>size_0 then 1 else size_0) then 8 else (if (1:Int)>size_0 then 1 else size_0))))=true then
  chk (isB [[L.int .u8 (v8 (Int.tmod u_1 256))]]=true)<|
  chk (ByteArray.size s_3+ByteArray.size (istr (List.map leafI [[L.int .u8 (v8 (Int.tmod u_1 256))]]))≤9223372036854775807)<|
  c1_ (v64 (Int.tdiv u_1 256),s_3++(istr (List.map leafI [[L.int .u8 (v8 (Int.tmod u_1 256))]])),w64 (i_2+1))
 else
 some s_3
noncomputable def Zbh (N:Nat) (size_0 n_1:Int):Option ByteArray:=
 loopN (Zbh.p1 N size_0) N (v64 (n_1),(ByteArray.mk #[]),0)
noncomputable def Zbh.p1.S (size_0 u_1:Int) (s_3:ByteArray) (i_2:Int) (st:LL):S:=mkS 27 [(0,sI size_0),(5,.one (.l (L.int .u64 u_1))),(6,.one (.l (L.str s_3))),(7,sI i_2)] [] st
theorem Zbh.p1_ok {size_0 u_1 s_3 i_2 st r c1_ J1} (h:Zbh.p1 N size_0 c1_ (u_1,s_3,i_2)=some r) (hE:En Tryz.f107 g0 w0 (Zbh.rs r) st R) (hc1 : ∀u_1 s_3 i_2,c1_ (u_1,s_3,i_2)=some r→At g0 w0 (Zbh.p1.S size_0 u_1 s_3 i_2 st) J1):At g0 w0 (Zbh.p1.S size_0 u_1 s_3 i_2 st) (XK Tryz.prog R (.c (csub Zbh.B [1,1,1,0,1,0,0]) :: .h J1 :: [.b 0,.c (csub Zbh.B [1,1,1,1])])):=by
 unfold Zbh.p1 at h
 refine iteB h (fun c4 h1=>?_) (fun c4 h2=>?_)
 ·obtain ⟨c5,c6,h3⟩:=ck2 h1
  exact an fol [.r [],.c true,.r [],.r [],.r []] [0,5,6,7] [] (aN c4 (neI 256) z0 (eN (1)) c5 c6 (neI 256)) (hc1 (v64 (Int.tdiv u_1 256)) (s_3++(istr (List.map leafI [[L.int .u8 (v8 (Int.tmod u_1 256))]]))) (w64 (i_2+1)) h3)
 ·obtain rfl:=Zac h2
  exact af fol hE [.r [],.c false,.r []] [] 0 [] c4
theorem Zbh.snd {size_0 n_1:Int} {r:ByteArray} (h:Zbh N size_0 n_1=some r):SndQ Tryz.prog 107 [oI size_0,oI n_1] (Zbh.rs r):=fun st=>
 sO Zbh.B Tryz.func107 fun g0 w0 R hE=>by
  unfold Zbh at h
  exact aq fol [.r [],.r [],.r [],.r []] [0,5,6,7] [] trivial (At.loop N (At.loopN (fun y:Int×ByteArray×Int=>Zbh.p1.S size_0 y.1 y.2.1 y.2.2 st) (fun c J hc y h=>Zbh.p1_ok (u_1:=y.1) (s_3:=y.2.1) (i_2:=y.2.2) h hE (fun u_1 s_3 i_2=>hc (u_1,s_3,i_2))) N (v64 (n_1),(ByteArray.mk #[]),0) h))
noncomputable def ZbR.B:Code:=Tryz.f108.body.getD .skip
noncomputable def ZbR.rs (r:ByteArray):List CV:=[.one (L.str r)]
noncomputable def ZbR.p1 (N:Nat) (h_0_0:List Int) (c1_:(ByteArray×Int)→Option ByteArray):(ByteArray×Int)→Option ByteArray:=fun (s_2,i_1)=>
 if (decide (i_1<32))=true then
  chk (0≤i_1)<|
  chk (isB [[L.int .u8 (List.getD h_0_0 (Int.toNat i_1) 0)]]=true)<|
  chk (ByteArray.size s_2+ByteArray.size (istr (List.map leafI [[L.int .u8 (List.getD h_0_0 (Int.toNat i_1) 0)]]))≤9223372036854775807)<|
  c1_ (s_2++(istr (List.map leafI [[L.int .u8 (List.getD h_0_0 (Int.toNat i_1) 0)]])),w64 (i_1+1))
 else
 some s_2
noncomputable def ZbR (N:Nat) (h_0_0:List Int):Option ByteArray:=
 loopN (ZbR.p1 N h_0_0) N ((ByteArray.mk #[]),0)
noncomputable def ZbR.p1.S (s_2:ByteArray) (i_1:Int) (h_0_0:List Int) (st:LL):S:=mkS 17 [(1,sA 1),(3,.one (.l (L.str s_2))),(4,sI i_1)] [(1,.cells [L.arr .u8 32 h_0_0])] st
theorem ZbR.p1_ok {s_2 i_1 h_0_0 st r c1_ J1} (h:ZbR.p1 N h_0_0 c1_ (s_2,i_1)=some r) (hE:En Tryz.f108 g0 w0 (ZbR.rs r) st R) (hc1 : ∀s_2 i_1,c1_ (s_2,i_1)=some r→At g0 w0 (ZbR.p1.S s_2 i_1 h_0_0 st) J1):At g0 w0 (ZbR.p1.S s_2 i_1 h_0_0 st) (XK Tryz.prog R (.c (csub ZbR.B [1,1,0,1,0,0]) :: .h J1 :: [.b 0,.c (csub ZbR.B [1,1,1])])):=by
 unfold ZbR.p1 at h
 refine iteB h (fun c5 h1=>?_) (fun c5 h2=>?_)
 ·obtain ⟨c6,c7,c8,h3⟩:=ck3 h1
  exact an fol [.r [],.c true,.r [],.r []] [1,3,4] [1] (aN c5 c6 (oD c5) z0 (eN (1)) c7 c8) (hc1 (s_2++(istr (List.map leafI [[L.int .u8 (List.getD h_0_0 (Int.toNat i_1) 0)]]))) (w64 (i_1+1)) h3)
 ·obtain rfl:=Zac h2
  exact af fol hE [.r [],.c false,.r []] [] 0 [] c5
theorem ZbR.snd {h_0_0:List Int} {r:ByteArray} (h:ZbR N h_0_0=some r):SndQ Tryz.prog 108 [.agg [L.arr .u8 32 h_0_0]] (ZbR.rs r):=fun st=>
 sO ZbR.B Tryz.func108 fun g0 w0 R hE=>by
  unfold ZbR at h
  exact aq fol [.r [],.r [],.r []] [1,3,4] [1] trivial (At.loop N (At.loopN (fun y:ByteArray×Int=>ZbR.p1.S y.1 y.2 h_0_0 st) (fun c J hc y h=>ZbR.p1_ok (s_2:=y.1) (i_1:=y.2) h hE (fun s_2 i_1=>hc (s_2,i_1))) N ((ByteArray.mk #[]),0) h))
noncomputable def Zda.B:Code:=Tryz.f84.body.getD .skip
noncomputable def Zda.rs (r:ByteArray):List CV:=[.one (L.str r)]
noncomputable def Zda (N:Nat) (h_0:Zai):Option ByteArray:=
 optE (Zbh N 4 h_0.Version) fun x1=>
 optE (ZbR N h_0.Prev) fun x2=>
 chk (ByteArray.size x1+ByteArray.size x2≤9223372036854775807)<|
 optE (ZbR N h_0.Root) fun x3=>
 chk (ByteArray.size (x1++x2)+ByteArray.size x3≤9223372036854775807)<|
 optE (Zbh N 4 h_0.Time) fun x4=>
 chk (ByteArray.size ((x1++x2)++x3)+ByteArray.size x4≤9223372036854775807)<|
 optE (Zbh N 4 h_0.Bits) fun x5=>
 chk (ByteArray.size (((x1++x2)++x3)++x4)+ByteArray.size x5≤9223372036854775807)<|
 optE (Zbh N 4 h_0.Nonce) fun x6=>
 chk (ByteArray.size ((((x1++x2)++x3)++x4)++x5)+ByteArray.size x6≤9223372036854775807)<|
 some (((((x1++x2)++x3)++x4)++x5)++x6)
theorem Zda.snd {h_0:Zai} {r:ByteArray} (h:Zda N h_0=some r):SndQ Tryz.prog 84 [.agg h_0.ls] (Zda.rs r):=fun st=>
 sO Zda.B Tryz.func84 fun g0 w0 R hE=>by
  unfold Zda at h
  obtain ⟨x1,c1,h1⟩:=Zad h
  obtain ⟨x2,c2,h2⟩:=Zad h1
  obtain ⟨c3,h3⟩:=ZaY h2
  obtain ⟨x3,c4,h4⟩:=Zad h3
  obtain ⟨c5,h5⟩:=ZaY h4
  obtain ⟨x4,c6,h6⟩:=Zad h5
  obtain ⟨c7,h7⟩:=ZaY h6
  obtain ⟨x5,c8,h8⟩:=Zad h7
  obtain ⟨c9,h9⟩:=ZaY h8
  obtain ⟨x6,c10,h10⟩:=Zad h9
  obtain ⟨c11,h11⟩:=ZaY h10
  obtain rfl:=Zac h11
  exact afd fol hE [.r [],.d {ds:=[(2,q1 [.one (L.str x1)]),(5,q1 [.one (L.str x2)]),(9,q1 [.one (L.str x3)])],hv:=0,Hs:=[]},.d {ds:=[(3,q1 [.one (L.str x4)]),(7,q1 [.one (L.str x5)]),(11,q1 [.one (L.str x6)])],hv:=0,Hs:=[]}] [] 0 [] (aO (Zbh.snd c1) (ZbR.snd c2) c3 (ZbR.snd c4) c5 (Zbh.snd c6) c7 (aK (Zbh.snd c8) c9 (Zbh.snd c10) c11))
noncomputable def ZaT.B:Code:=Tryz.f132.body.getD .skip
noncomputable def ZaT.rs (r:ByteArray):List CV:=[.one (L.str r)]
noncomputable def ZaT.p2 (N:Nat) (s_4:ByteArray) (c2_:(Int×ByteArray×Int)→Option ByteArray):(Int×ByteArray×Int)→Option ByteArray:=fun (n_5,tail_7,i_6)=>
 if (decide (i_6<8))=true then
  chk (isB [[L.int .u8 (v8 (Int.tmod n_5 256))]]=true)<|
  chk (ByteArray.size (istr (List.map leafI [[L.int .u8 (v8 (Int.tmod n_5 256))]]))+ByteArray.size tail_7≤9223372036854775807)<|
  c2_ (w64 (Int.tdiv n_5 256),(istr (List.map leafI [[L.int .u8 (v8 (Int.tmod n_5 256))]]))++tail_7,w64 (i_6+1))
 else
 chk (ByteArray.size s_4+ByteArray.size tail_7≤9223372036854775807)<|
 some (s_4++tail_7)
noncomputable def ZaT.p1 (N:Nat) (s_0:ByteArray) (c1_:ByteArray→Option ByteArray):ByteArray→Option ByteArray:=fun s_4=>
 if ((Int.tmod ((ByteArray.size s_4:Nat):Int) 64) != 56)=true then
  chk (ByteArray.size s_4+ByteArray.size (ByteArray.mk #[0])≤9223372036854775807)<|
  c1_ (s_4++(ByteArray.mk #[0]))
 else
 loopN (ZaT.p2 N s_4) N (w64 (8*((ByteArray.size s_0:Nat):Int)),(ByteArray.mk #[]),0)
noncomputable def ZaT (N:Nat) (s_0:ByteArray):Option ByteArray:=
 chk (ByteArray.size s_0+ByteArray.size (ByteArray.mk #[128])≤9223372036854775807)<|
 loopN (ZaT.p1 N s_0) N (s_0++(ByteArray.mk #[128]))
noncomputable def ZaT.p2.S (s_4:ByteArray) (n_5:Int) (tail_7:ByteArray) (i_6:Int) (st:LL):S:=mkS 34 [(0,.one (.l (L.str s_4))),(3,sI n_5),(4,.one (.l (L.str tail_7))),(5,sI i_6)] [] st
noncomputable def ZaT.p1.S (s_4 s_0:ByteArray) (st:LL):S:=mkS 34 [(0,.one (.l (L.str s_4))),(3,sI ((ByteArray.size s_0:Nat):Int))] [] st
theorem ZaT.p2_ok {s_4 n_5 tail_7 i_6 st r c2_ J2} (h:ZaT.p2 N s_4 c2_ (n_5,tail_7,i_6)=some r) (hE:En Tryz.f132 g0 w0 (ZaT.rs r) st R) (hc2 : ∀n_5 tail_7 i_6,c2_ (n_5,tail_7,i_6)=some r→At g0 w0 (ZaT.p2.S s_4 n_5 tail_7 i_6 st) J2):At g0 w0 (ZaT.p2.S s_4 n_5 tail_7 i_6 st) (XK Tryz.prog R (.c (csub ZaT.B [1,1,1,1,1,1,0,1,0,0]) :: .h J2 :: [.b 2,.c (csub ZaT.B [1,1,1,1,1,1,1])])):=by
 unfold ZaT.p2 at h
 refine iteB h (fun c18 h1=>?_) (fun c18 h2=>?_)
 ·obtain ⟨c19,c20,h3⟩:=ck2 h1
  exact an fol [.r [],.c true,.r [],.r [],.r []] [0,3,4,5] [] (aN c18 (neI 256) z0 (eN (1)) c19 c20 (neI 256)) (hc2 (w64 (Int.tdiv n_5 256)) ((istr (List.map leafI [[L.int .u8 (v8 (Int.tmod n_5 256))]]))++tail_7) (w64 (i_6+1)) h3)
 ·obtain ⟨c21,h4⟩:=ZaY h2
  obtain rfl:=Zac h4
  exact af fol hE [.r [],.c false,.r []] [] 0 [] (aI c18 c21)
theorem ZaT.p1_ok {s_4 s_0 st r c1_ J1} (h:ZaT.p1 N s_0 c1_ s_4=some r) (hE:En Tryz.f132 g0 w0 (ZaT.rs r) st R) (hc1 : ∀s_4,c1_ s_4=some r→At g0 w0 (ZaT.p1.S s_4 s_0 st) J1):At g0 w0 (ZaT.p1.S s_4 s_0 st) (XK Tryz.prog R (.c (csub ZaT.B [1,1,1,0,0,0]) :: .h J1 :: [.b 0,.c (csub ZaT.B [1,1,1,1])])):=by
 unfold ZaT.p1 at h
 refine iteB h (fun c12 h5=>?_) (fun c12 h6=>?_)
 ·obtain ⟨c13,h7⟩:=ZaY h5
  exact an fol [.r [],.c true,.r []] [0,3] [] (aJ (neI 64) c12 c13) (hc1 (s_4++(ByteArray.mk #[0])) h7)
 ·exact aq fol [.r [],.c false,.r [],.r [],.r []] [0,3,4,5] [] (aI (neI 64) c12) (At.loop N (At.loopN (fun y:Int×ByteArray×Int=>ZaT.p2.S s_4 y.1 y.2.1 y.2.2 st) (fun c J hc y h=>ZaT.p2_ok (n_5:=y.1) (tail_7:=y.2.1) (i_6:=y.2.2) h hE (fun n_5 tail_7 i_6=>hc (n_5,tail_7,i_6))) N (w64 (8*((ByteArray.size s_0:Nat):Int)),(ByteArray.mk #[]),0) h6))
theorem ZaT.snd {s_0:ByteArray} {r:ByteArray} (h:ZaT N s_0=some r):SndQ Tryz.prog 132 [.one (L.str s_0)] (ZaT.rs r):=fun st=>
 sO ZaT.B Tryz.func132 fun g0 w0 R hE=>by
  unfold ZaT at h
  obtain ⟨c1,h8⟩:=ZaY h
  exact aq fol [.r [],.r [],.r []] [0,3] [] c1 (At.loop N (At.loopN (fun y:ByteArray=>ZaT.p1.S y s_0 st) (fun c J hc y h=>ZaT.p1_ok h hE (fun s_4=>hc s_4)) N (s_0++(ByteArray.mk #[128])) h8))
noncomputable def ZaZ.B:Code:=Tryz.f133.body.getD .skip
noncomputable def ZaZ.rs (r:Int):List CV:=[.one (L.int .u32 r)]
noncomputable def ZaZ (N:Nat) (x_0 n_1:Int):Option Int:=
 chk (0≤n_1)<|
 chk (0≤(v64 (32-n_1)))<|
 some (v32 ((shrOf .u32 x_0 n_1)+(shlOf .u32 x_0 (v64 (32-n_1)))))
theorem ZaZ.snd {x_0 n_1:Int} {r:Int} (h:ZaZ N x_0 n_1=some r):SndQ Tryz.prog 133 [.one (L.int .u32 x_0),.one (L.int .u64 n_1)] (ZaZ.rs r):=fun st=>
 sO ZaZ.B Tryz.func133 fun g0 w0 R hE=>by
  unfold ZaZ at h
  obtain ⟨c1,c2,h1⟩:=ck2 h
  obtain rfl:=Zac h1
  exact af fol hE [.r [],.r []] [] 0 [] (aI c1 c2)
noncomputable def Zel.B:Code:=Tryz.f134.body.getD .skip
noncomputable def Zel.rs (r:Int):List CV:=[.one (L.int .u32 r)]
noncomputable def Zel (N:Nat) (i_0:Int):Option Int:=
 chk (0≤i_0)<|
 chk (i_0<64)<|
 some (List.getD [1116352408,1899447441,3049323471,3921009573,961987163,1508970993,2453635748,2870763221,3624381080,310598401,607225278,1426881987,1925078388,2162078206,2614888103,3248222580,3835390401,4022224774,264347078,604807628,770255983,1249150122,1555081692,1996064986,2554220882,2821834349,2952996808,3210313671,3336571891,3584528711,113926993,338241895,666307205,773529912,1294757372,1396182291,1695183700,1986661051,2177026350,2456956037,2730485921,2820302411,3259730800,3345764771,3516065817,3600352804,4094571909,275423344,430227734,506948616,659060556,883997877,958139571,1322822218,1537002063,1747873779,1955562222,2024104815,2227730452,2361852424,2428436474,2756734187,3204031479,3329325298] (Int.toNat i_0) 0)
theorem Zel.snd {i_0:Int} {r:Int} (h:Zel N i_0=some r):SndQ Tryz.prog 134 [oI i_0] (Zel.rs r):=fun st=>
 sO Zel.B Tryz.func134 fun g0 w0 R hE=>by
  unfold Zel at h
  obtain ⟨c1,c2,h1⟩:=ck2 h
  obtain rfl:=Zac h1
  exact af fol hE [.r [],.r [(0,{m:=3})]] [] 0 [] (aI c1 c2)
noncomputable def Zar.B:Code:=Tryz.f106.body.getD .skip
noncomputable def Zar.rs (r:(List Int)):List CV:=[.agg [L.arr .u8 32 r]]
noncomputable def Zar.p3 (N:Nat) (c2_:(Int×(List Int))→Option (List Int)) (c1_:(Int×(List Int))→Option (List Int)) (x1:ByteArray) (at_2 i_112:Int) (h_111:List Int) (c3_:(Int×(List Int))→Option (List Int)):(Int×(List Int))→Option (List Int):=fun (j_166,w_167)=>
 if (decide (j_166<4))=true then
  chk (0≤i_112)<|
  chk (i_112<64)<|
  chk (0≤(w64 ((w64 (at_2+(w64 (4*i_112))))+j_166)))<|
  chk ((w64 ((w64 (at_2+(w64 (4*i_112))))+j_166))<((ByteArray.size x1:Nat):Int))<|
  c3_ (w64 (j_166+1),List.set w_167 (Int.toNat i_112) (v32 ((v32 ((List.getD w_167 (Int.toNat i_112) 0)*256))+(v32 (((UInt8.toNat (List.getD (Array.toList (ByteArray.data x1)) (Int.toNat (w64 ((w64 (at_2+(w64 (4*i_112))))+j_166))) 0):Nat):Int))))))
 else
 c2_ (w64 (i_112+1),w_167)
noncomputable def Zar.p6 (N:Nat) (c1_:(Int×(List Int))→Option (List Int)) (x1:ByteArray) (at_2:Int) (s_208:List Int) (c6_:(Int×(List Int))→Option (List Int)):(Int×(List Int))→Option (List Int):=fun (i_216,h_217)=>
 if (decide (i_216<8))=true then
  chk (0≤i_216)<|
  c6_ (w64 (i_216+1),List.set h_217 (Int.toNat i_216) (v32 ((List.getD h_217 (Int.toNat i_216) 0)+(List.getD s_208 (Int.toNat i_216) 0))))
 else
 c1_ (w64 (at_2+64),h_217)
noncomputable def Zar.p5 (N:Nat) (c1_:(Int×(List Int))→Option (List Int)) (x1:ByteArray) (at_2:Int) (h_111 w_193:List Int) (c5_:(Int×(List Int))→Option (List Int)):(Int×(List Int))→Option (List Int):=fun (i_198,s_208)=>
 if (decide (i_198<64))=true then
  optE (ZaZ N (List.getD s_208 4 0) 6) fun x209=>
  optE (ZaZ N (List.getD s_208 4 0) 11) fun x210=>
  optE (ZaZ N (List.getD s_208 4 0) 25) fun x211=>
  optE (Zel N i_198) fun x212=>
  chk (0≤i_198)<|
  optE (ZaZ N (List.getD s_208 0 0) 2) fun x213=>
  optE (ZaZ N (List.getD s_208 0 0) 13) fun x214=>
  optE (ZaZ N (List.getD s_208 0 0) 22) fun x215=>
  c5_ (w64 (i_198+1),[v32 ((v32 ((v32 ((v32 ((v32 ((List.getD s_208 7 0)+(bitsOf .xor .u32 (bitsOf .xor .u32 x209 x210) x211)))+(bitsOf .or .u32 (bitsOf .and .u32 (List.getD s_208 4 0) (List.getD s_208 5 0)) (bitsOf .and .u32 (v32 (4294967295-(List.getD s_208 4 0))) (List.getD s_208 6 0)))))+x212))+(List.getD w_193 (Int.toNat i_198) 0)))+(v32 ((bitsOf .xor .u32 (bitsOf .xor .u32 x213 x214) x215)+(bitsOf .or .u32 (bitsOf .or .u32 (bitsOf .and .u32 (List.getD s_208 0 0) (List.getD s_208 1 0)) (bitsOf .and .u32 (List.getD s_208 0 0) (List.getD s_208 2 0))) (bitsOf .and .u32 (List.getD s_208 1 0) (List.getD s_208 2 0)))))),List.getD s_208 0 0,List.getD s_208 1 0,List.getD s_208 2 0,v32 ((List.getD s_208 3 0)+(v32 ((v32 ((v32 ((v32 ((List.getD s_208 7 0)+(bitsOf .xor .u32 (bitsOf .xor .u32 x209 x210) x211)))+(bitsOf .or .u32 (bitsOf .and .u32 (List.getD s_208 4 0) (List.getD s_208 5 0)) (bitsOf .and .u32 (v32 (4294967295-(List.getD s_208 4 0))) (List.getD s_208 6 0)))))+x212))+(List.getD w_193 (Int.toNat i_198) 0)))),List.getD s_208 4 0,List.getD s_208 5 0,List.getD s_208 6 0])
 else
 loopN (Zar.p6 N c1_ x1 at_2 s_208) N (0,h_111)
noncomputable def Zar.p4 (N:Nat) (c1_:(Int×(List Int))→Option (List Int)) (x1:ByteArray) (at_2:Int) (h_111:List Int) (c4_:(Int×(List Int))→Option (List Int)):(Int×(List Int))→Option (List Int):=fun (i_168,w_193)=>
 if (decide (i_168<64))=true then
  chk (0≤(w64 (i_168-15)))<|
  chk ((w64 (i_168-15))<64)<|
  optE (ZaZ N (List.getD w_193 (Int.toNat (w64 (i_168-15))) 0) 7) fun x194=>
  optE (ZaZ N (List.getD w_193 (Int.toNat (w64 (i_168-15))) 0) 18) fun x195=>
  chk (0≤(w64 (i_168-2)))<|
  chk ((w64 (i_168-2))<64)<|
  optE (ZaZ N (List.getD w_193 (Int.toNat (w64 (i_168-2))) 0) 17) fun x196=>
  optE (ZaZ N (List.getD w_193 (Int.toNat (w64 (i_168-2))) 0) 19) fun x197=>
  chk (0≤(w64 (i_168-16)))<|
  chk ((w64 (i_168-16))<64)<|
  chk (0≤(w64 (i_168-7)))<|
  chk ((w64 (i_168-7))<64)<|
  chk (0≤i_168)<|
  c4_ (w64 (i_168+1),List.set w_193 (Int.toNat i_168) (v32 ((v32 ((v32 ((List.getD w_193 (Int.toNat (w64 (i_168-16))) 0)+(bitsOf .xor .u32 (bitsOf .xor .u32 x194 x195) (v32 (Int.tdiv (List.getD w_193 (Int.toNat (w64 (i_168-15))) 0) 8)))))+(List.getD w_193 (Int.toNat (w64 (i_168-7))) 0)))+(bitsOf .xor .u32 (bitsOf .xor .u32 x196 x197) (v32 (Int.tdiv (List.getD w_193 (Int.toNat (w64 (i_168-2))) 0) 1024))))))
 else
 loopN (Zar.p5 N c1_ x1 at_2 h_111 w_193) N (0,h_111)
noncomputable def Zar.p2 (N:Nat) (c1_:(Int×(List Int))→Option (List Int)) (x1:ByteArray) (at_2:Int) (h_111:List Int) (c2_:(Int×(List Int))→Option (List Int)):(Int×(List Int))→Option (List Int):=fun (i_112,w_165)=>
 if (decide (i_112<16))=true then
  loopN (Zar.p3 N c2_ c1_ x1 at_2 i_112 h_111) N (0,w_165)
 else
 loopN (Zar.p4 N c1_ x1 at_2 h_111) N (16,w_165)
noncomputable def Zar.p7 (N:Nat) (h_111:List Int) (c7_:(Int×(List Int))→Option (List Int)):(Int×(List Int))→Option (List Int):=fun (i_218,out_219)=>
 if (decide (i_218<32))=true then
  chk (0≤(w64 (Int.tdiv i_218 4)))<|
  chk ((w64 (Int.tdiv i_218 4))<8)<|
  chk (0≤(v64 (w64 (24-(w64 (8*(Int.tmod i_218 4)))))))<|
  chk (0≤i_218)<|
  c7_ (w64 (i_218+1),List.set out_219 (Int.toNat i_218) (v8 (Int.tmod (shrOf .u32 (List.getD h_111 (Int.toNat (w64 (Int.tdiv i_218 4))) 0) (v64 (w64 (24-(w64 (8*(Int.tmod i_218 4))))))) 256)))
 else
 some out_219
noncomputable def Zar.p1 (N:Nat) (x1:ByteArray) (c1_:(Int×(List Int))→Option (List Int)):(Int×(List Int))→Option (List Int):=fun (at_2,h_111)=>
 if (decide (at_2<((ByteArray.size x1:Nat):Int)))=true then
  loopN (Zar.p2 N c1_ x1 at_2 h_111) N (0,List.replicate 64 0)
 else
 loopN (Zar.p7 N h_111) N (0,List.replicate 32 0)
noncomputable def Zar (N:Nat) (s_0:ByteArray):Option (List Int):=
 optE (ZaT N s_0) fun x1=>
 loopN (Zar.p1 N x1) N (0,[1779033703,3144134277,1013904242,2773480762,1359893119,2600822924,528734635,1541459225])
noncomputable def Zar.p3.S (x1:ByteArray) (at_2 i_112 j_166:Int) (h_111 w_167:List Int) (st:LL):S:=mkS 225 [(2,sA 2),(3,sA 3),(4,.one (.l (L.str x1))),(5,sI at_2),(6,sA 6),(7,sI i_112),(8,sI j_166)] [(2,.cells [L.arr .u8 32 (List.replicate 32 0)]),(3,.cells [L.arr .u32 8 h_111]),(6,.cells [L.arr .u32 64 w_167])] st
noncomputable def Zar.p6.S (x1:ByteArray) (at_2 i_216:Int) (h_217 s_208:List Int) (st:LL):S:=mkS 225 [(2,sA 2),(3,sA 3),(4,.one (.l (L.str x1))),(5,sI at_2),(12,sA 12),(16,sI i_216)] [(2,.cells [L.arr .u8 32 (List.replicate 32 0)]),(3,.cells [L.arr .u32 8 h_217]),(12,.cells [L.arr .u32 8 s_208])] st
noncomputable def Zar.p5.S (x1:ByteArray) (at_2 i_198:Int) (h_111 w_193 s_208:List Int) (st:LL):S:=mkS 225 [(2,sA 2),(3,sA 3),(4,.one (.l (L.str x1))),(5,sI at_2),(6,sA 6),(12,sA 12),(13,sI i_198)] [(2,.cells [L.arr .u8 32 (List.replicate 32 0)]),(3,.cells [L.arr .u32 8 h_111]),(6,.cells [L.arr .u32 64 w_193]),(12,.cells [L.arr .u32 8 s_208])] st
noncomputable def Zar.p4.S (x1:ByteArray) (at_2 i_168:Int) (h_111 w_193:List Int) (st:LL):S:=mkS 225 [(2,sA 2),(3,sA 3),(4,.one (.l (L.str x1))),(5,sI at_2),(6,sA 6),(9,sI i_168)] [(2,.cells [L.arr .u8 32 (List.replicate 32 0)]),(3,.cells [L.arr .u32 8 h_111]),(6,.cells [L.arr .u32 64 w_193])] st
noncomputable def Zar.p2.S (x1:ByteArray) (at_2 i_112:Int) (h_111 w_165:List Int) (st:LL):S:=mkS 225 [(2,sA 2),(3,sA 3),(4,.one (.l (L.str x1))),(5,sI at_2),(6,sA 6),(7,sI i_112)] [(2,.cells [L.arr .u8 32 (List.replicate 32 0)]),(3,.cells [L.arr .u32 8 h_111]),(6,.cells [L.arr .u32 64 w_165])] st
noncomputable def Zar.p7.S (i_218:Int) (h_111 out_219:List Int) (st:LL):S:=mkS 225 [(2,sA 2),(3,sA 3),(17,sA 17),(18,sI i_218)] [(2,.cells [L.arr .u8 32 (List.replicate 32 0)]),(3,.cells [L.arr .u32 8 h_111]),(17,.cells [L.arr .u8 32 out_219])] st
noncomputable def Zar.p1.S (x1:ByteArray) (at_2:Int) (h_111:List Int) (st:LL):S:=mkS 225 [(2,sA 2),(3,sA 3),(4,.one (.l (L.str x1))),(5,sI at_2)] [(2,.cells [L.arr .u8 32 (List.replicate 32 0)]),(3,.cells [L.arr .u32 8 h_111])] st
theorem Zar.p3_ok {x1 at_2 i_112 j_166 h_111 w_167 st r c2_ c1_ c3_ J2 J1 J3} (h:Zar.p3 N c2_ c1_ x1 at_2 i_112 h_111 c3_ (j_166,w_167)=some r) (hE:En Tryz.f106 g0 w0 (Zar.rs r) st R) (hc2 : ∀i_112 w_165,c2_ (i_112,w_165)=some r→At g0 w0 (Zar.p2.S x1 at_2 i_112 h_111 w_165 st) J2) (hc1 : ∀at_2 h_111,c1_ (at_2,h_111)=some r→At g0 w0 (Zar.p1.S x1 at_2 h_111 st) J1) (hc3 : ∀j_166 w_167,c3_ (j_166,w_167)=some r→At g0 w0 (Zar.p3.S x1 at_2 i_112 j_166 h_111 w_167 st) J3):At g0 w0 (Zar.p3.S x1 at_2 i_112 j_166 h_111 w_167 st) (XK Tryz.prog R (.c (csub Zar.B [1,1,1,0,1,0,0,1,0,0,1,0,1,0,0,1,0,0,1,0,0]) :: .h J3 :: [.b 4,.b 3,.c (csub Zar.B [1,1,1,0,1,0,0,1,0,0,1,0,1,0,0,1,1]),.h J2,.b 2,.c (csub Zar.B [1,1,1,0,1,0,0,1,0,0,1,1]),.b 1,.c (csub Zar.B [1,1,1,0,1,0,0,1,1]),.h J1,.b 0,.c (csub Zar.B [1,1,1,1])])):=by
 unfold Zar.p3 at h
 refine iteB h (fun c293 h1=>?_) (fun c293 h2=>?_)
 ·obtain ⟨c294,c295,c296,c297,h3⟩:=ck4 h1
  exact and_ fol [.r [],.c true,.d {ds:=[],hv:=65536,Hs:=[65536]},.r []] [2,3,4,5,6,7,8] [2,3,6] (aN c293 c294 c295 c296 c297 c294 c295) (hc3 (w64 (j_166+1)) (List.set w_167 (Int.toNat i_112) (v32 ((v32 ((List.getD w_167 (Int.toNat i_112) 0)*256))+(v32 (((UInt8.toNat (List.getD (Array.toList (ByteArray.data x1)) (Int.toNat (w64 ((w64 (at_2+(w64 (4*i_112))))+j_166))) 0):Nat):Int)))))) h3)
 ·exact an fol [.r [],.c false,.r []] [2,3,4,5,6,7] [2,3,6] c293 (hc2 (w64 (i_112+1)) w_167 h2)
theorem Zar.p6_ok {x1 at_2 i_216 h_217 s_208 st r c1_ c6_ J1 J6} (h:Zar.p6 N c1_ x1 at_2 s_208 c6_ (i_216,h_217)=some r) (hE:En Tryz.f106 g0 w0 (Zar.rs r) st R) (hc1 : ∀at_2 h_111,c1_ (at_2,h_111)=some r→At g0 w0 (Zar.p1.S x1 at_2 h_111 st) J1) (hc6 : ∀i_216 h_217,c6_ (i_216,h_217)=some r→At g0 w0 (Zar.p6.S x1 at_2 i_216 h_217 s_208 st) J6):At g0 w0 (Zar.p6.S x1 at_2 i_216 h_217 s_208 st) (XK Tryz.prog R (.c (csub Zar.B [1,1,1,0,1,0,0,1,0,0,1,1,1,1,1,1,0,0]) :: .h J6 :: [.b 10,.b 1,.c (csub Zar.B [1,1,1,0,1,0,0,1,1]),.h J1,.b 0,.c (csub Zar.B [1,1,1,1])])):=by
 unfold Zar.p6 at h
 refine iteB h (fun c376 h4=>?_) (fun c376 h5=>?_)
 ·obtain ⟨c377,h6⟩:=ZaY h4
  exact and_ fol [.r [],.c true,.d {ds:=[],hv:=512,Hs:=[512]},.r []] [2,3,4,5,12,16] [2,3,12] (aN c376 c377 (oD c376) c377 (oD c376) c377 (oD c376)) (hc6 (w64 (i_216+1)) (List.set h_217 (Int.toNat i_216) (v32 ((List.getD h_217 (Int.toNat i_216) 0)+(List.getD s_208 (Int.toNat i_216) 0)))) h6)
 ·exact an fol [.r [],.c false,.r []] [2,3,4,5] [2,3] c376 (hc1 (w64 (at_2+64)) h_217 h5)
theorem Zar.p5_ok {x1 at_2 i_198 h_111 w_193 s_208 st r c1_ c5_ J1 J5} (h:Zar.p5 N c1_ x1 at_2 h_111 w_193 c5_ (i_198,s_208)=some r) (hE:En Tryz.f106 g0 w0 (Zar.rs r) st R) (hc1 : ∀at_2 h_111,c1_ (at_2,h_111)=some r→At g0 w0 (Zar.p1.S x1 at_2 h_111 st) J1) (hc5 : ∀i_198 s_208,c5_ (i_198,s_208)=some r→At g0 w0 (Zar.p5.S x1 at_2 i_198 h_111 w_193 s_208 st) J5):At g0 w0 (Zar.p5.S x1 at_2 i_198 h_111 w_193 s_208 st) (XK Tryz.prog R (.c (csub Zar.B [1,1,1,0,1,0,0,1,0,0,1,1,1,1,0,1,0,0]) :: .h J5 :: [.b 8,.c (csub Zar.B [1,1,1,0,1,0,0,1,0,0,1,1,1,1,1]),.b 1,.c (csub Zar.B [1,1,1,0,1,0,0,1,1]),.h J1,.b 0,.c (csub Zar.B [1,1,1,1])])):=by
 unfold Zar.p5 at h
 refine iteB h (fun c365 h7=>?_) (fun c365 h8=>?_)
 ·obtain ⟨x209,c366,h9⟩:=Zad h7
  obtain ⟨x210,c367,h10⟩:=Zad h9
  obtain ⟨x211,c368,h11⟩:=Zad h10
  obtain ⟨x212,c369,h12⟩:=Zad h11
  obtain ⟨c370,h13⟩:=ZaY h12
  obtain ⟨x213,c371,h14⟩:=Zad h13
  obtain ⟨x214,c372,h15⟩:=Zad h14
  obtain ⟨x215,c373,h16⟩:=Zad h15
  exact and_ fol [.r [],.c true,.d {ds:=[(4,q1 [.one (L.int .u32 x209)]),(7,q1 [.one (L.int .u32 x210)]),(11,q1 [.one (L.int .u32 x211)]),(28,q1 [.one (L.int .u32 x212)])],hv:=0,Hs:=[]},.d {ds:=[(2,q1 [.one (L.int .u32 x213)]),(5,q1 [.one (L.int .u32 x214)]),(9,q1 [.one (L.int .u32 x215)])],hv:=0,Hs:=[]},.r [(19,{m:=3})],.r []] [2,3,4,5,6,12,13] [2,3,6,12] (aI c365 (ix 7 8 (ix 4 8 (aI (ZaZ.snd c366) (ix 4 8 (aI (ZaZ.snd c367) (ix 4 8 (aI (ZaZ.snd c368) (ix 4 8 (ix 5 8 (ix 4 8 (ix 6 8 (aK (Zel.snd c369) c370 (oD c365) (ix 0 8 (aI (ZaZ.snd c371) (ix 0 8 (aI (ZaZ.snd c372) (ix 0 8 (aI (ZaZ.snd c373) (ix 0 8 (ix 1 8 (ix 0 8 (ix 2 8 (ix 1 8 (ix 2 8 (ix 0 8 (ix 1 8 (ix 2 8 (ix 3 8 (ix 4 8 (ix 5 8 (aI (leI 0 6) (ltI 6 8))))))))))))))))))))))))))))))))) (hc5 (w64 (i_198+1)) [v32 ((v32 ((v32 ((v32 ((v32 ((List.getD s_208 7 0)+(bitsOf .xor .u32 (bitsOf .xor .u32 x209 x210) x211)))+(bitsOf .or .u32 (bitsOf .and .u32 (List.getD s_208 4 0) (List.getD s_208 5 0)) (bitsOf .and .u32 (v32 (4294967295-(List.getD s_208 4 0))) (List.getD s_208 6 0)))))+x212))+(List.getD w_193 (Int.toNat i_198) 0)))+(v32 ((bitsOf .xor .u32 (bitsOf .xor .u32 x213 x214) x215)+(bitsOf .or .u32 (bitsOf .or .u32 (bitsOf .and .u32 (List.getD s_208 0 0) (List.getD s_208 1 0)) (bitsOf .and .u32 (List.getD s_208 0 0) (List.getD s_208 2 0))) (bitsOf .and .u32 (List.getD s_208 1 0) (List.getD s_208 2 0)))))),List.getD s_208 0 0,List.getD s_208 1 0,List.getD s_208 2 0,v32 ((List.getD s_208 3 0)+(v32 ((v32 ((v32 ((v32 ((List.getD s_208 7 0)+(bitsOf .xor .u32 (bitsOf .xor .u32 x209 x210) x211)))+(bitsOf .or .u32 (bitsOf .and .u32 (List.getD s_208 4 0) (List.getD s_208 5 0)) (bitsOf .and .u32 (v32 (4294967295-(List.getD s_208 4 0))) (List.getD s_208 6 0)))))+x212))+(List.getD w_193 (Int.toNat i_198) 0)))),List.getD s_208 4 0,List.getD s_208 5 0,List.getD s_208 6 0] h16)
 ·exact aq fol [.r [],.c false,.r []] [2,3,4,5,12,16] [2,3,12] c365 (At.loop N (At.loopN (fun y:Int×(List Int)=>Zar.p6.S x1 at_2 y.1 y.2 s_208 st) (fun c J hc y h=>Zar.p6_ok (i_216:=y.1) (h_217:=y.2) h hE hc1 (fun i_216 h_217=>hc (i_216,h_217))) N (0,h_111) h8))
theorem Zar.p4_ok {x1 at_2 i_168 h_111 w_193 st r c1_ c4_ J1 J4} (h:Zar.p4 N c1_ x1 at_2 h_111 c4_ (i_168,w_193)=some r) (hE:En Tryz.f106 g0 w0 (Zar.rs r) st R) (hc1 : ∀at_2 h_111,c1_ (at_2,h_111)=some r→At g0 w0 (Zar.p1.S x1 at_2 h_111 st) J1) (hc4 : ∀i_168 w_193,c4_ (i_168,w_193)=some r→At g0 w0 (Zar.p4.S x1 at_2 i_168 h_111 w_193 st) J4):At g0 w0 (Zar.p4.S x1 at_2 i_168 h_111 w_193 st) (XK Tryz.prog R (.c (csub Zar.B [1,1,1,0,1,0,0,1,0,0,1,1,0,1,0,0]) :: .h J4 :: [.b 6,.c (csub Zar.B [1,1,1,0,1,0,0,1,0,0,1,1,1]),.b 1,.c (csub Zar.B [1,1,1,0,1,0,0,1,1]),.h J1,.b 0,.c (csub Zar.B [1,1,1,1])])):=by
 unfold Zar.p4 at h
 refine iteB h (fun c338 h17=>?_) (fun c338 h18=>?_)
 ·obtain ⟨c339,c340,h19⟩:=ck2 h17
  obtain ⟨x194,c341,h20⟩:=Zad h19
  obtain ⟨x195,c342,h21⟩:=Zad h20
  obtain ⟨c343,c344,h22⟩:=ck2 h21
  obtain ⟨x196,c345,h23⟩:=Zad h22
  obtain ⟨x197,c346,h24⟩:=Zad h23
  obtain ⟨c347,c348,c349,c350,c351,h25⟩:=ck5 h24
  exact and_ fol [.r [],.c true,.d {ds:=[(4,q1 [.one (L.int .u32 x194)]),(9,q1 [.one (L.int .u32 x195)])],hv:=0,Hs:=[]},.d {ds:=[(4,q1 [.one (L.int .u32 x196)]),(9,q1 [.one (L.int .u32 x197)])],hv:=0,Hs:=[]},.d {ds:=[],hv:=32768,Hs:=[32768]},.r []] [2,3,4,5,6,9] [2,3,6] (aO c338 c339 c340 (ZaZ.snd c341) c339 c340 (ZaZ.snd c342) (aO c339 c340 (neI 8) c343 c344 (ZaZ.snd c345) c343 (aO c344 (ZaZ.snd c346) c343 c344 (neI 1024) c347 c348 (aK c349 c350 c351 (oD c338))))) (hc4 (w64 (i_168+1)) (List.set w_193 (Int.toNat i_168) (v32 ((v32 ((v32 ((List.getD w_193 (Int.toNat (w64 (i_168-16))) 0)+(bitsOf .xor .u32 (bitsOf .xor .u32 x194 x195) (v32 (Int.tdiv (List.getD w_193 (Int.toNat (w64 (i_168-15))) 0) 8)))))+(List.getD w_193 (Int.toNat (w64 (i_168-7))) 0)))+(bitsOf .xor .u32 (bitsOf .xor .u32 x196 x197) (v32 (Int.tdiv (List.getD w_193 (Int.toNat (w64 (i_168-2))) 0) 1024)))))) h25)
 ·exact aq fol [.r [],.c false,.r [],.r []] [2,3,4,5,6,12,13] [2,3,6,12] c338 (At.loop N (At.loopN (fun y:Int×(List Int)=>Zar.p5.S x1 at_2 y.1 h_111 w_193 y.2 st) (fun c J hc y h=>Zar.p5_ok (i_198:=y.1) (s_208:=y.2) h hE hc1 (fun i_198 s_208=>hc (i_198,s_208))) N (0,h_111) h18))
theorem Zar.p2_ok {x1 at_2 i_112 h_111 w_165 st r c1_ c2_ J1 J2} (h:Zar.p2 N c1_ x1 at_2 h_111 c2_ (i_112,w_165)=some r) (hE:En Tryz.f106 g0 w0 (Zar.rs r) st R) (hc1 : ∀at_2 h_111,c1_ (at_2,h_111)=some r→At g0 w0 (Zar.p1.S x1 at_2 h_111 st) J1) (hc2 : ∀i_112 w_165,c2_ (i_112,w_165)=some r→At g0 w0 (Zar.p2.S x1 at_2 i_112 h_111 w_165 st) J2):At g0 w0 (Zar.p2.S x1 at_2 i_112 h_111 w_165 st) (XK Tryz.prog R (.c (csub Zar.B [1,1,1,0,1,0,0,1,0,0,1,0,1,0,0]) :: .h J2 :: [.b 2,.c (csub Zar.B [1,1,1,0,1,0,0,1,0,0,1,1]),.b 1,.c (csub Zar.B [1,1,1,0,1,0,0,1,1]),.h J1,.b 0,.c (csub Zar.B [1,1,1,1])])):=by
 unfold Zar.p2 at h
 refine iteB h (fun c287 h26=>?_) (fun c287 h27=>?_)
 ·exact aq fol [.r [],.c true,.r []] [2,3,4,5,6,7,8] [2,3,6] c287 (At.loop N (At.loopN (fun y:Int×(List Int)=>Zar.p3.S x1 at_2 i_112 y.1 h_111 y.2 st) (fun c J hc y h=>Zar.p3_ok (j_166:=y.1) (w_167:=y.2) h hE hc2 hc1 (fun j_166 w_167=>hc (j_166,w_167))) N (0,w_165) h26))
 ·exact aq fol [.r [],.c false,.r []] [2,3,4,5,6,9] [2,3,6] c287 (At.loop N (At.loopN (fun y:Int×(List Int)=>Zar.p4.S x1 at_2 y.1 h_111 y.2 st) (fun c J hc y h=>Zar.p4_ok (i_168:=y.1) (w_193:=y.2) h hE hc1 (fun i_168 w_193=>hc (i_168,w_193))) N (16,w_165) h27))
theorem Zar.p7_ok {i_218 h_111 out_219 st r c7_ J7} (h:Zar.p7 N h_111 c7_ (i_218,out_219)=some r) (hE:En Tryz.f106 g0 w0 (Zar.rs r) st R) (hc7 : ∀i_218 out_219,c7_ (i_218,out_219)=some r→At g0 w0 (Zar.p7.S i_218 h_111 out_219 st) J7):At g0 w0 (Zar.p7.S i_218 h_111 out_219 st) (XK Tryz.prog R (.c (csub Zar.B [1,1,1,1,1,0,1,0,0]) :: .h J7 :: [.b 12,.c (csub Zar.B [1,1,1,1,1,1])])):=by
 unfold Zar.p7 at h
 refine iteB h (fun c383 h28=>?_) (fun c383 h29=>?_)
 ·obtain ⟨c384,c385,c386,c387,h30⟩:=ck4 h28
  exact an fol [.r [],.c true,.r [],.r []] [2,3,17,18] [2,3,17] (aO c383 (neI 4) c384 c385 (neI 4) c386 (neI 256) (aI c387 (oD c383))) (hc7 (w64 (i_218+1)) (List.set out_219 (Int.toNat i_218) (v8 (Int.tmod (shrOf .u32 (List.getD h_111 (Int.toNat (w64 (Int.tdiv i_218 4))) 0) (v64 (w64 (24-(w64 (8*(Int.tmod i_218 4))))))) 256))) h30)
 ·obtain rfl:=Zac h29
  exact af fol hE [.r [],.c false,.r []] [] 0 [] c383
theorem Zar.p1_ok {x1 at_2 h_111 st r c1_ J1} (h:Zar.p1 N x1 c1_ (at_2,h_111)=some r) (hE:En Tryz.f106 g0 w0 (Zar.rs r) st R) (hc1 : ∀at_2 h_111,c1_ (at_2,h_111)=some r→At g0 w0 (Zar.p1.S x1 at_2 h_111 st) J1):At g0 w0 (Zar.p1.S x1 at_2 h_111 st) (XK Tryz.prog R (.c (csub Zar.B [1,1,1,0,1,0,0]) :: .h J1 :: [.b 0,.c (csub Zar.B [1,1,1,1])])):=by
 unfold Zar.p1 at h
 refine iteB h (fun c195 h31=>?_) (fun c195 h32=>?_)
 ·exact aq fol [.r [],.c true,.r [],.r []] [2,3,4,5,6,7] [2,3,6] c195 (At.loop N (At.loopN (fun y:Int×(List Int)=>Zar.p2.S x1 at_2 y.1 h_111 y.2 st) (fun c J hc y h=>Zar.p2_ok (i_112:=y.1) (w_165:=y.2) h hE hc1 (fun i_112 w_165=>hc (i_112,w_165))) N (0,List.replicate 64 0) h31))
 ·exact aq fol [.r [],.c false,.r [],.r []] [2,3,17,18] [2,3,17] c195 (At.loop N (At.loopN (fun y:Int×(List Int)=>Zar.p7.S y.1 h_111 y.2 st) (fun c J hc y h=>Zar.p7_ok (i_218:=y.1) (out_219:=y.2) h hE (fun i_218 out_219=>hc (i_218,out_219))) N (0,List.replicate 32 0) h32))
theorem Zar.snd {s_0:ByteArray} {r:(List Int)} (h:Zar N s_0=some r):SndQ Tryz.prog 106 [.one (L.str s_0)] (Zar.rs r):=fun st=>
 sO Zar.B Tryz.func106 fun g0 w0 R hE=>by
  unfold Zar at h
  obtain ⟨x1,c1,h33⟩:=Zad h
  exact aq fol [.r [],.r [(0,{m:=3})],.r [(1,q1 [.one (L.str x1)])],.r []] [2,3,4,5] [2,3] (ZaT.snd c1) (At.loop N (At.loopN (fun y:Int×(List Int)=>Zar.p1.S x1 y.1 y.2 st) (fun c J hc y h=>Zar.p1_ok (at_2:=y.1) (h_111:=y.2) h hE (fun at_2 h_111=>hc (at_2,h_111))) N (0,[1779033703,3144134277,1013904242,2773480762,1359893119,2600822924,528734635,1541459225]) h33))
noncomputable def Zby.B:Code:=Tryz.f83.body.getD .skip
noncomputable def Zby.rs (r:(List Int)):List CV:=[.agg [L.arr .u8 32 r]]
noncomputable def Zby.p1 (N:Nat) (x1:List Int) (c1_:(ByteArray×Int)→Option (List Int)):(ByteArray×Int)→Option (List Int):=fun (b_4,i_2)=>
 if (decide (i_2<32))=true then
  chk (0≤i_2)<|
  chk (isB [[L.int .u8 (List.getD x1 (Int.toNat i_2) 0)]]=true)<|
  chk (ByteArray.size b_4+ByteArray.size (istr (List.map leafI [[L.int .u8 (List.getD x1 (Int.toNat i_2) 0)]]))≤9223372036854775807)<|
  c1_ (b_4++(istr (List.map leafI [[L.int .u8 (List.getD x1 (Int.toNat i_2) 0)]])),w64 (i_2+1))
 else
 optE (Zar N b_4) fun x5=>
 some x5
noncomputable def Zby (N:Nat) (s_0:ByteArray):Option (List Int):=
 optE (Zar N s_0) fun x1=>
 loopN (Zby.p1 N x1) N ((ByteArray.mk #[]),0)
noncomputable def Zby.p1.S (b_4:ByteArray) (i_2:Int) (x1:List Int) (st:LL):S:=mkS 21 [(2,sA 2),(3,sA 3),(4,.one (.l (L.str b_4))),(5,sI i_2)] [(2,.cells [L.arr .u8 32 (List.replicate 32 0)]),(3,.cells [L.arr .u8 32 x1])] st
theorem Zby.p1_ok {b_4 i_2 x1 st r c1_ J1} (h:Zby.p1 N x1 c1_ (b_4,i_2)=some r) (hE:En Tryz.f83 g0 w0 (Zby.rs r) st R) (hc1 : ∀b_4 i_2,c1_ (b_4,i_2)=some r→At g0 w0 (Zby.p1.S b_4 i_2 x1 st) J1):At g0 w0 (Zby.p1.S b_4 i_2 x1 st) (XK Tryz.prog R (.c (csub Zby.B [1,1,1,0,1,0,0]) :: .h J1 :: [.b 0,.c (csub Zby.B [1,1,1,1])])):=by
 unfold Zby.p1 at h
 refine iteB h (fun c7 h1=>?_) (fun c7 h2=>?_)
 ·obtain ⟨c8,c9,c10,h3⟩:=ck3 h1
  exact an fol [.r [],.c true,.r [],.r []] [2,3,4,5] [2,3] (aN c7 c8 (oD c7) z0 (eN (1)) c9 c10) (hc1 (b_4++(istr (List.map leafI [[L.int .u8 (List.getD x1 (Int.toNat i_2) 0)]]))) (w64 (i_2+1)) h3)
 ·obtain ⟨x5,c11,h4⟩:=Zad h2
  obtain rfl:=Zac h4
  exact af fol hE [.r [],.c false,.r [(1,q1 [.agg [L.arr .u8 32 x5]])]] [] 0 [] (aI c7 (Zar.snd c11))
theorem Zby.snd {s_0:ByteArray} {r:(List Int)} (h:Zby N s_0=some r):SndQ Tryz.prog 83 [.one (L.str s_0)] (Zby.rs r):=fun st=>
 sO Zby.B Tryz.func83 fun g0 w0 R hE=>by
  unfold Zby at h
  obtain ⟨x1,c1,h5⟩:=Zad h
  exact aq fol [.r [],.r [(1,q1 [.agg [L.arr .u8 32 x1]])],.r [],.r []] [2,3,4,5] [2,3] (Zar.snd c1) (At.loop N (At.loopN (fun y:ByteArray×Int=>Zby.p1.S y.1 y.2 x1 st) (fun c J hc y h=>Zby.p1_ok (b_4:=y.1) (i_2:=y.2) h hE (fun b_4 i_2=>hc (b_4,i_2))) N ((ByteArray.mk #[]),0) h5))
noncomputable def Zch.B:Code:=Tryz.f49.body.getD .skip
noncomputable def Zch.rs (r:(List Int)):List CV:=[.agg [L.arr .u8 32 r]]
noncomputable def Zch (N:Nat) (h_0:Zai):Option (List Int):=
 optE (ZbQ N h_0) fun x1=>
 if (!x1)=true then
  some (List.replicate 32 0)
 else
 optE (Zda N h_0) fun x2=>
 optE (Zby N x2) fun x3=>
 some x3
theorem Zch.snd {h_0:Zai} {r:(List Int)} (h:Zch N h_0=some r):SndQ Tryz.prog 49 [.agg h_0.ls] (Zch.rs r):=fun st=>
 sO Zch.B Tryz.func49 fun g0 w0 R hE=>by
  unfold Zch at h
  obtain ⟨x1,c1,h1⟩:=Zad h
  refine iteB h1 (fun c2 h2=>?_) (fun c2 h3=>?_)
  ·obtain rfl:=Zac h2
   exact af fol hE [.r [],.r [(1,q1 [oB x1])],.c true,.r []] [] 0 [] (aI (ZbQ.snd c1) c2)
  ·obtain ⟨x2,c3,h4⟩:=Zad h3
   obtain ⟨x3,c4,h5⟩:=Zad h4
   obtain rfl:=Zac h5
   exact af fol hE [.r [],.r [(1,q1 [oB x1])],.c false,.r [(1,q1 [.one (L.str x2)]),(2,q1 [.agg [L.arr .u8 32 x3]])]] [] 0 [] (aK (ZbQ.snd c1) c2 (Zda.snd c3) (Zby.snd c4))
noncomputable def Zdo.B:Code:=Tryz.f130.body.getD .skip
noncomputable def Zdo.rs (r:(List Int)):List CV:=[.agg [L.arr .u64 4 r]]
noncomputable def Zdo (N:Nat) (a_0_0:List Int) (i_1:Int):Option (List Int):=
 chk (0≤(w64 (Int.tdiv i_1 64)))<|
 chk ((w64 (Int.tdiv i_1 64))<4)<|
 chk (0≤(v64 (Int.tmod i_1 64)))<|
 some (List.set a_0_0 (Int.toNat (w64 (Int.tdiv i_1 64))) (bitsOf .or .u64 (List.getD a_0_0 (Int.toNat (w64 (Int.tdiv i_1 64))) 0) (shlOf .u64 1 (v64 (Int.tmod i_1 64)))))
theorem Zdo.snd {a_0_0:List Int} {i_1:Int} {r:(List Int)} (h:Zdo N a_0_0 i_1=some r):SndQ Tryz.prog 130 [.agg [L.arr .u64 4 a_0_0],oI i_1] (Zdo.rs r):=fun st=>
 sO Zdo.B Tryz.func130 fun g0 w0 R hE=>by
  unfold Zdo at h
  obtain ⟨c1,c2,c3,h1⟩:=ck3 h
  obtain rfl:=Zac h1
  exact af fol hE [.r [],.r [],.r []] [] 0 [] (aO (neI 64) (neI 64) c1 c2 (neI 64) c3 c1 c2)
noncomputable def ZaV.B:Code:=Tryz.f102.body.getD .skip
noncomputable def ZaV.rs (r:(List Int)×Bool):List CV:=[.agg [L.arr .u64 4 r.1],oB r.2]
noncomputable def ZaV.p2 (N:Nat) (c1_:(Int×Int×(List Int))→Option ((List Int)×Bool)) (i_2 x8 x9 c_1:Int) (a_0_0 b_1_0 out_11:List Int):Option ((List Int)×Bool):=
 c1_ (w64 (Int.tdiv (w64 ((w64 (x8+x9))+c_1)) 2),w64 (i_2+1),out_11)
noncomputable def ZaV.p1 (N:Nat) (a_0_0 b_1_0:List Int) (c1_:(Int×Int×(List Int))→Option ((List Int)×Bool)):(Int×Int×(List Int))→Option ((List Int)×Bool):=fun (c_1,i_2,out_7)=>
 if (decide (i_2<256))=true then
  optE (Zcd N a_0_0 i_2) fun x8=>
  optE (Zcd N b_1_0 i_2) fun x9=>
  if ((Int.tmod (w64 ((w64 (x8+x9))+c_1)) 2)==1)=true then
   optE (Zdo N out_7 i_2) fun x10=>
   ZaV.p2 N c1_ i_2 x8 x9 c_1 a_0_0 b_1_0 x10
  else
  ZaV.p2 N c1_ i_2 x8 x9 c_1 a_0_0 b_1_0 out_7
 else
 some (out_7,c_1==1)
noncomputable def ZaV (N:Nat) (a_0_0 b_1_0:List Int):Option ((List Int)×Bool):=
 loopN (ZaV.p1 N a_0_0 b_1_0) N (0,0,List.replicate 4 0)
noncomputable def ZaV.p2.S (i_2 x8 x9 c_1:Int) (a_0_0 b_1_0 out_11:List Int) (st:LL):S:=mkS 35 [(2,sA 2),(3,sA 3),(4,sA 4),(6,sA 6),(8,sI i_2),(9,sI (w64 ((w64 (x8+x9))+c_1)))] [(2,.cells [L.arr .u64 4 a_0_0]),(3,.cells [L.arr .u64 4 b_1_0]),(4,.cells [L.arr .u64 4 (List.replicate 4 0)]),(6,.cells [L.arr .u64 4 out_11])] st
noncomputable def ZaV.p1.S (c_1 i_2:Int) (a_0_0 b_1_0 out_7:List Int) (st:LL):S:=mkS 35 [(2,sA 2),(3,sA 3),(4,sA 4),(6,sA 6),(7,sI c_1),(8,sI i_2)] [(2,.cells [L.arr .u64 4 a_0_0]),(3,.cells [L.arr .u64 4 b_1_0]),(4,.cells [L.arr .u64 4 (List.replicate 4 0)]),(6,.cells [L.arr .u64 4 out_7])] st
theorem ZaV.p2_ok {i_2 x8 x9 c_1 a_0_0 b_1_0 out_11 st r c1_ J1} (h:ZaV.p2 N c1_ i_2 x8 x9 c_1 a_0_0 b_1_0 out_11=some r) (hE:En Tryz.f102 g0 w0 (ZaV.rs r) st R) (hc1 : ∀c_1 i_2 out_7,c1_ (c_1,i_2,out_7)=some r→At g0 w0 (ZaV.p1.S c_1 i_2 a_0_0 b_1_0 out_7 st) J1):At g0 w0 (ZaV.p2.S i_2 x8 x9 c_1 a_0_0 b_1_0 out_11 st) (XK Tryz.prog R [.c (csub ZaV.B [1,1,1,0,1,0,0,1,0,0,1,1]),.b 1,.c (csub ZaV.B [1,1,1,0,1,0,0,1,1]),.h J1,.b 0,.c (csub ZaV.B [1,1,1,1])]):=by
 unfold ZaV.p2 at h
 exact an fol [.r [],.r []] [2,3,4,6,7,8] [2,3,4,6] (neI 2) (hc1 (w64 (Int.tdiv (w64 ((w64 (x8+x9))+c_1)) 2)) (w64 (i_2+1)) out_11 h)
theorem ZaV.p1_ok {c_1 i_2 a_0_0 b_1_0 out_7 st r c1_ J1} (h:ZaV.p1 N a_0_0 b_1_0 c1_ (c_1,i_2,out_7)=some r) (hE:En Tryz.f102 g0 w0 (ZaV.rs r) st R) (hc1 : ∀c_1 i_2 out_7,c1_ (c_1,i_2,out_7)=some r→At g0 w0 (ZaV.p1.S c_1 i_2 a_0_0 b_1_0 out_7 st) J1):At g0 w0 (ZaV.p1.S c_1 i_2 a_0_0 b_1_0 out_7 st) (XK Tryz.prog R (.c (csub ZaV.B [1,1,1,0,1,0,0]) :: .h J1 :: [.b 0,.c (csub ZaV.B [1,1,1,1])])):=by
 unfold ZaV.p1 at h
 refine iteB h (fun c6 h1=>?_) (fun c6 h2=>?_)
 ·obtain ⟨x8,c7,h3⟩:=Zad h1
  obtain ⟨x9,c8,h4⟩:=Zad h3
  refine iteB h4 (fun c9 h5=>?_) (fun c9 h6=>?_)
  ·obtain ⟨x10,c10,h7⟩:=Zad h5
   exact aqd fol [.r [],.c true,.d {ds:=[(2,q1 [oI x8]),(5,q1 [oI x9])],hv:=0,Hs:=[]},.r [],.c true,.r [(2,q1 [.agg [L.arr .u64 4 x10]])],.s 6] [2,3,4,6,8,9] [2,3,4,6] (aM c6 (Zcd.snd c7) (Zcd.snd c8) (neI 2) c9 (Zdo.snd c10)) (ZaV.p2_ok h7 hE hc1)
  ·exact aqd fol [.r [],.c true,.d {ds:=[(2,q1 [oI x8]),(5,q1 [oI x9])],hv:=0,Hs:=[]},.r [],.c false,.s 6] [2,3,4,6,8,9] [2,3,4,6] (aL c6 (Zcd.snd c7) (Zcd.snd c8) (neI 2) c9) (ZaV.p2_ok h6 hE hc1)
 ·obtain rfl:=Zac h2
  exact af fol hE [.r [],.c false,.r []] [] 0 [] c6
theorem ZaV.snd {a_0_0 b_1_0:List Int} {r:(List Int)×Bool} (h:ZaV N a_0_0 b_1_0=some r):SndQ Tryz.prog 102 [.agg [L.arr .u64 4 a_0_0],.agg [L.arr .u64 4 b_1_0]] (ZaV.rs r):=fun st=>
 sO ZaV.B Tryz.func102 fun g0 w0 R hE=>by
  unfold ZaV at h
  exact aq fol [.r [],.r [],.r [],.r []] [2,3,4,6,7,8] [2,3,4,6] trivial (At.loop N (At.loopN (fun y:Int×Int×(List Int)=>ZaV.p1.S y.1 y.2.1 a_0_0 b_1_0 y.2.2 st) (fun c J hc y h=>ZaV.p1_ok (c_1:=y.1) (i_2:=y.2.1) (out_7:=y.2.2) h hE (fun c_1 i_2 out_7=>hc (c_1,i_2,out_7))) N (0,0,List.replicate 4 0) h))
noncomputable def Zbj.B:Code:=Tryz.f131.body.getD .skip
noncomputable def Zbj.rs (r:(List Int)):List CV:=[.agg [L.arr .u64 4 r]]
noncomputable def Zbj.p2 (N:Nat) (c1_:(Int×(List Int))→Option (List Int)) (i_1:Int) (a_0_0 out_8:List Int):Option (List Int):=
 c1_ (w64 (i_1+1),out_8)
noncomputable def Zbj.p1 (N:Nat) (a_0_0:List Int) (c1_:(Int×(List Int))→Option (List Int)):(Int×(List Int))→Option (List Int):=fun (i_1,out_5)=>
 if (decide (i_1<256))=true then
  optE (Zcd N a_0_0 i_1) fun x6=>
  if (x6==0)=true then
   optE (Zdo N out_5 i_1) fun x7=>
   Zbj.p2 N c1_ i_1 a_0_0 x7
  else
  Zbj.p2 N c1_ i_1 a_0_0 out_5
 else
 some out_5
noncomputable def Zbj (N:Nat) (a_0_0:List Int):Option (List Int):=
 loopN (Zbj.p1 N a_0_0) N (0,List.replicate 4 0)
noncomputable def Zbj.p2.S (i_1:Int) (a_0_0 out_8:List Int) (st:LL):S:=mkS 18 [(1,sA 1),(2,sA 2),(3,sA 3),(4,sI i_1)] [(1,.cells [L.arr .u64 4 a_0_0]),(2,.cells [L.arr .u64 4 (List.replicate 4 0)]),(3,.cells [L.arr .u64 4 out_8])] st
noncomputable def Zbj.p1.S (i_1:Int) (a_0_0 out_5:List Int) (st:LL):S:=mkS 18 [(1,sA 1),(2,sA 2),(3,sA 3),(4,sI i_1)] [(1,.cells [L.arr .u64 4 a_0_0]),(2,.cells [L.arr .u64 4 (List.replicate 4 0)]),(3,.cells [L.arr .u64 4 out_5])] st
theorem Zbj.p2_ok {i_1 a_0_0 out_8 st r c1_ J1} (h:Zbj.p2 N c1_ i_1 a_0_0 out_8=some r) (hE:En Tryz.f131 g0 w0 (Zbj.rs r) st R) (hc1 : ∀i_1 out_5,c1_ (i_1,out_5)=some r→At g0 w0 (Zbj.p1.S i_1 a_0_0 out_5 st) J1):At g0 w0 (Zbj.p2.S i_1 a_0_0 out_8 st) (XK Tryz.prog R [.c (csub Zbj.B [1,1,0,1,0,0,1,1]),.h J1,.b 0,.c (csub Zbj.B [1,1,1])]):=by
 unfold Zbj.p2 at h
 exact an fol [.r []] [1,2,3,4] [1,2,3] trivial (hc1 (w64 (i_1+1)) out_8 h)
theorem Zbj.p1_ok {i_1 a_0_0 out_5 st r c1_ J1} (h:Zbj.p1 N a_0_0 c1_ (i_1,out_5)=some r) (hE:En Tryz.f131 g0 w0 (Zbj.rs r) st R) (hc1 : ∀i_1 out_5,c1_ (i_1,out_5)=some r→At g0 w0 (Zbj.p1.S i_1 a_0_0 out_5 st) J1):At g0 w0 (Zbj.p1.S i_1 a_0_0 out_5 st) (XK Tryz.prog R (.c (csub Zbj.B [1,1,0,1,0,0]) :: .h J1 :: [.b 0,.c (csub Zbj.B [1,1,1])])):=by
 unfold Zbj.p1 at h
 refine iteB h (fun c5 h1=>?_) (fun c5 h2=>?_)
 ·obtain ⟨x6,c6,h3⟩:=Zad h1
  refine iteB h3 (fun c7 h4=>?_) (fun c7 h5=>?_)
  ·obtain ⟨x7,c8,h6⟩:=Zad h4
   exact aq fol [.r [],.c true,.r [(2,q1 [oI x6])],.c true,.r [(2,q1 [.agg [L.arr .u64 4 x7]])],.s 4] [1,2,3,4] [1,2,3] (aK c5 (Zcd.snd c6) c7 (Zdo.snd c8)) (Zbj.p2_ok h6 hE hc1)
  ·exact aq fol [.r [],.c true,.r [(2,q1 [oI x6])],.c false,.s 4] [1,2,3,4] [1,2,3] (aJ c5 (Zcd.snd c6) c7) (Zbj.p2_ok h5 hE hc1)
 ·obtain rfl:=Zac h2
  exact af fol hE [.r [],.c false,.r []] [] 0 [] c5
theorem Zbj.snd {a_0_0:List Int} {r:(List Int)} (h:Zbj N a_0_0=some r):SndQ Tryz.prog 131 [.agg [L.arr .u64 4 a_0_0]] (Zbj.rs r):=fun st=>
 sO Zbj.B Tryz.func131 fun g0 w0 R hE=>by
  unfold Zbj at h
  exact aq fol [.r [],.r [],.r []] [1,2,3,4] [1,2,3] trivial (At.loop N (At.loopN (fun y:Int×(List Int)=>Zbj.p1.S y.1 a_0_0 y.2 st) (fun c J hc y h=>Zbj.p1_ok (i_1:=y.1) (out_5:=y.2) h hE (fun i_1 out_5=>hc (i_1,out_5))) N (0,List.replicate 4 0) h))
noncomputable def Zcx.B:Code:=Tryz.f103.body.getD .skip
noncomputable def Zcx.rs (r:(List Int)):List CV:=[.agg [L.arr .u64 4 r]]
noncomputable def Zcx (N:Nat):Option (List Int):=
 optE (Zbj N (List.replicate 4 0)) fun x1=>
 some x1
theorem Zcx.snd {r:(List Int)} (h:Zcx N=some r):SndQ Tryz.prog 103 [] (Zcx.rs r):=fun st=>
 sO Zcx.B Tryz.func103 fun g0 w0 R hE=>by
  unfold Zcx at h
  obtain ⟨x1,c1,h1⟩:=Zad h
  obtain rfl:=Zac h1
  exact af fol hE [.r [],.r [(1,q1 [.agg [L.arr .u64 4 x1]])]] [] 0 [] (Zbj.snd c1)
noncomputable def ZcT.B:Code:=Tryz.f129.body.getD .skip
noncomputable def ZcT.rs (r:(List Int)×Bool):List CV:=[.agg [L.arr .u64 4 r.1],oB r.2]
noncomputable def ZcT (N:Nat) (a_0_0 b_1_0:List Int):Option ((List Int)×Bool):=
 optE (Zbj N b_1_0) fun x1=>
 optE (ZaV N a_0_0 x1) fun (x2,x3)=>
 optE (ZaV N x2 [1,0,0,0]) fun (x4,x5)=>
 optE (Zbe N a_0_0 b_1_0) fun x6=>
 some (x4,x6)
theorem ZcT.snd {a_0_0 b_1_0:List Int} {r:(List Int)×Bool} (h:ZcT N a_0_0 b_1_0=some r):SndQ Tryz.prog 129 [.agg [L.arr .u64 4 a_0_0],.agg [L.arr .u64 4 b_1_0]] (ZcT.rs r):=fun st=>
 sO ZcT.B Tryz.func129 fun g0 w0 R hE=>by
  unfold ZcT at h
  obtain ⟨x1,c1,h1⟩:=Zad h
  obtain ⟨⟨x2,x3⟩,c2,h2⟩:=Zad h1
  obtain ⟨⟨x4,x5⟩,c3,h3⟩:=Zad h2
  obtain ⟨x6,c4,h4⟩:=Zad h3
  obtain rfl:=Zac h4
  exact afd fol hE [.r [],.d {ds:=[(2,q1 [.agg [L.arr .u64 4 x1]]),(3,q1 [.agg [L.arr .u64 4 x2],oB x3])],hv:=384,Hs:=[128,384]},.r [(1,{m:=3}),(2,q1 [.agg [L.arr .u64 4 x4],oB x5])],.d {ds:=[(3,q1 [oB x6])],hv:=16,Hs:=[16]}] [] 0 [] (aM (Zbj.snd c1) (Zbj.snd c1) (ZaV.snd c2) (ZaV.snd c2) (ZaV.snd c3) (Zbe.snd c4))
noncomputable def Zbd.B:Code:=Tryz.f101.body.getD .skip
noncomputable def Zbd.rs (r:(List Int)):List CV:=[.agg [L.arr .u64 4 r]]
noncomputable def Zbd.p2 (N:Nat) (c1_:(Int×(List Int)×(List Int))→Option (List Int)) (i_5:Int) (target_0_0 x1 out_36 rest_37:List Int):Option (List Int):=
 c1_ (w64 (i_5-1),out_36,rest_37)
noncomputable def Zbd.p3 (N:Nat) (out_41:List Int):Option (List Int):=
 some out_41
noncomputable def Zbd.p1 (N:Nat) (target_0_0 x1:List Int) (c1_:(Int×(List Int)×(List Int))→Option (List Int)):(Int×(List Int)×(List Int))→Option (List Int):=fun (i_5,out_23,rest_24)=>
 if (decide (i_5≥0))=true then
  optE (Zak N x1 i_5) fun x25=>
  optE (Zak N x25 (w64 (0-i_5))) fun x26=>
  if (!(x26==x1))=true then
   Zbd.p2 N c1_ i_5 target_0_0 x1 out_23 rest_24
  else
  optE (ZcT N x25 [1,0,0,0]) fun (x27,x28)=>
  optE (Zbe N rest_24 x27) fun x29=>
  if (!x29)=true then
   optE (ZcT N rest_24 x25) fun (x30,x31)=>
   optE (Zak N [1,0,0,0] i_5) fun x32=>
   optE (ZaV N out_23 x32) fun (x33,x34)=>
   optE (Zcx N ) fun x35=>
   if (x30==x35)=true then
    some x33
   else
   Zbd.p2 N c1_ i_5 target_0_0 x1 x33 x30
  else
  Zbd.p2 N c1_ i_5 target_0_0 x1 out_23 rest_24
 else
 optE (Zbe N rest_24 target_0_0) fun x38=>
 if (!x38)=true then
  optE (ZaV N out_23 [1,0,0,0]) fun (x39,x40)=>
  Zbd.p3 N x39
 else
 Zbd.p3 N out_23
noncomputable def Zbd (N:Nat) (target_0_0:List Int):Option (List Int):=
 optE (ZaV N target_0_0 [1,0,0,0]) fun (x1,x2)=>
 if x2=true then
  some [1,0,0,0]
 else
 if (target_0_0==(List.replicate 4 0))=true then
  optE (Zcx N ) fun x3=>
  some x3
 else
 optE (Zcx N ) fun x4=>
 loopN (Zbd.p1 N target_0_0 x1) N (255,List.replicate 4 0,x4)
noncomputable def Zbd.p2.S (i_5:Int) (target_0_0 x1 out_36 rest_37:List Int) (st:LL):S:=mkS 79 [(1,sA 1),(2,sA 2),(3,sA 3),(4,sA 4),(6,sA 6),(7,sA 7),(8,sI i_5)] [(1,.cells [L.arr .u64 4 target_0_0]),(2,.cells [L.arr .u64 4 (List.replicate 4 0)]),(3,.cells [L.arr .u64 4 [1,0,0,0]]),(4,.cells [L.arr .u64 4 x1]),(6,.cells [L.arr .u64 4 out_36]),(7,.cells [L.arr .u64 4 rest_37])] st
noncomputable def Zbd.p3.S (out_41:List Int) (st:LL):S:=mkS 79 [(2,sA 2),(6,sA 6)] [(2,.cells [L.arr .u64 4 (List.replicate 4 0)]),(6,.cells [L.arr .u64 4 out_41])] st
noncomputable def Zbd.p1.S (i_5:Int) (target_0_0 x1 out_23 rest_24:List Int) (st:LL):S:=mkS 79 [(1,sA 1),(2,sA 2),(3,sA 3),(4,sA 4),(6,sA 6),(7,sA 7),(8,sI i_5)] [(1,.cells [L.arr .u64 4 target_0_0]),(2,.cells [L.arr .u64 4 (List.replicate 4 0)]),(3,.cells [L.arr .u64 4 [1,0,0,0]]),(4,.cells [L.arr .u64 4 x1]),(6,.cells [L.arr .u64 4 out_23]),(7,.cells [L.arr .u64 4 rest_24])] st
theorem Zbd.p2_ok {i_5 target_0_0 x1 out_36 rest_37 st r c1_ J1} (h:Zbd.p2 N c1_ i_5 target_0_0 x1 out_36 rest_37=some r) (hE:En Tryz.f101 g0 w0 (Zbd.rs r) st R) (hc1 : ∀i_5 out_23 rest_24,c1_ (i_5,out_23,rest_24)=some r→At g0 w0 (Zbd.p1.S i_5 target_0_0 x1 out_23 rest_24 st) J1):At g0 w0 (Zbd.p2.S i_5 target_0_0 x1 out_36 rest_37 st) (XK Tryz.prog R [.c (csub Zbd.B [1,1,1,1,1,1,1,0,1,0,0,1,1]),.h J1,.b 0,.c (csub Zbd.B [1,1,1,1,1,1,1,1])]):=by
 unfold Zbd.p2 at h
 exact an fol [.r []] [1,2,3,4,6,7,8] [1,2,3,4,6,7] trivial (hc1 (w64 (i_5-1)) out_36 rest_37 h)
theorem Zbd.p3_ok {out_41 st r} (h:Zbd.p3 N out_41=some r) (hE:En Tryz.f101 g0 w0 (Zbd.rs r) st R):At g0 w0 (Zbd.p3.S out_41 st) (XK Tryz.prog R [.c (csub Zbd.B [1,1,1,1,1,1,1,1,1])]):=by
 unfold Zbd.p3 at h
 obtain rfl:=Zac h
 exact af fol hE [.r []] [] 0 [] trivial
theorem Zbd.p1_ok {i_5 target_0_0 x1 out_23 rest_24 st r c1_ J1} (h:Zbd.p1 N target_0_0 x1 c1_ (i_5,out_23,rest_24)=some r) (hE:En Tryz.f101 g0 w0 (Zbd.rs r) st R) (hc1 : ∀i_5 out_23 rest_24,c1_ (i_5,out_23,rest_24)=some r→At g0 w0 (Zbd.p1.S i_5 target_0_0 x1 out_23 rest_24 st) J1):At g0 w0 (Zbd.p1.S i_5 target_0_0 x1 out_23 rest_24 st) (XK Tryz.prog R (.c (csub Zbd.B [1,1,1,1,1,1,1,0,1,0,0]) :: .h J1 :: [.b 0,.c (csub Zbd.B [1,1,1,1,1,1,1,1])])):=by
 unfold Zbd.p1 at h
 refine iteB h (fun c21 h1=>?_) (fun c21 h2=>?_)
 ·obtain ⟨x25,c22,h3⟩:=Zad h1
  obtain ⟨x26,c23,h4⟩:=Zad h3
  refine iteB h4 (fun c24 h5=>?_) (fun c24 h6=>?_)
  ·exact aqd fol [.r [],.c true,.r [(2,q1 [.agg [L.arr .u64 4 x25]])],.d {ds:=[(3,q1 [.agg [L.arr .u64 4 x26]])],hv:=0,Hs:=[]},.c true,.s 4] [1,2,3,4,6,7,8] [1,2,3,4,6,7] (aK c21 (Zak.snd c22) (Zak.snd c23) c24) (Zbd.p2_ok h5 hE hc1)
  ·obtain ⟨⟨x27,x28⟩,c25,h7⟩:=Zad h6
   obtain ⟨x29,c26,h8⟩:=Zad h7
   refine iteB h8 (fun c27 h9=>?_) (fun c27 h10=>?_)
   ·obtain ⟨⟨x30,x31⟩,c28,h11⟩:=Zad h9
    obtain ⟨x32,c29,h12⟩:=Zad h11
    obtain ⟨⟨x33,x34⟩,c30,h13⟩:=Zad h12
    obtain ⟨x35,c31,h14⟩:=Zad h13
    refine iteB h14 (fun c32 h15=>?_) (fun c32 h16=>?_)
    ·obtain rfl:=Zac h15
     exact afd fol hE [.r [],.c true,.r [(2,q1 [.agg [L.arr .u64 4 x25]])],.d {ds:=[(3,q1 [.agg [L.arr .u64 4 x26]])],hv:=0,Hs:=[]},.c false,.r [(2,q1 [.agg [L.arr .u64 4 x27],oB x28])],.r [(2,q1 [oB x29])],.c true,.r [(2,q1 [.agg [L.arr .u64 4 x30],oB x31])],.d {ds:=[(3,q1 [.agg [L.arr .u64 4 x32]]),(4,q1 [.agg [L.arr .u64 4 x33],oB x34])],hv:=256,Hs:=[256]},.d {ds:=[(1,q1 [.agg [L.arr .u64 4 x35]])],hv:=0,Hs:=[]},.c true,.r []] [] 0 [] (aO c21 (Zak.snd c22) (Zak.snd c23) c24 (ZcT.snd c25) (Zbe.snd c26) c27 (aL (ZcT.snd c28) (Zak.snd c29) (ZaV.snd c30) (Zcx.snd c31) c32))
    ·exact aqd fol [.r [],.c true,.r [(2,q1 [.agg [L.arr .u64 4 x25]])],.d {ds:=[(3,q1 [.agg [L.arr .u64 4 x26]])],hv:=0,Hs:=[]},.c false,.r [(2,q1 [.agg [L.arr .u64 4 x27],oB x28])],.r [(2,q1 [oB x29])],.c true,.r [(2,q1 [.agg [L.arr .u64 4 x30],oB x31])],.d {ds:=[(3,q1 [.agg [L.arr .u64 4 x32]]),(4,q1 [.agg [L.arr .u64 4 x33],oB x34])],hv:=256,Hs:=[256]},.d {ds:=[(1,q1 [.agg [L.arr .u64 4 x35]])],hv:=0,Hs:=[]},.c false,.s 4] [1,2,3,4,6,7,8] [1,2,3,4,6,7] (aO c21 (Zak.snd c22) (Zak.snd c23) c24 (ZcT.snd c25) (Zbe.snd c26) c27 (aL (ZcT.snd c28) (Zak.snd c29) (ZaV.snd c30) (Zcx.snd c31) c32)) (Zbd.p2_ok h16 hE hc1)
   ·exact aqd fol [.r [],.c true,.r [(2,q1 [.agg [L.arr .u64 4 x25]])],.d {ds:=[(3,q1 [.agg [L.arr .u64 4 x26]])],hv:=0,Hs:=[]},.c false,.r [(2,q1 [.agg [L.arr .u64 4 x27],oB x28])],.r [(2,q1 [oB x29])],.c false,.s 4] [1,2,3,4,6,7,8] [1,2,3,4,6,7] (aN c21 (Zak.snd c22) (Zak.snd c23) c24 (ZcT.snd c25) (Zbe.snd c26) c27) (Zbd.p2_ok h10 hE hc1)
 ·obtain ⟨x38,c33,h17⟩:=Zad h2
  refine iteB h17 (fun c34 h18=>?_) (fun c34 h19=>?_)
  ·obtain ⟨⟨x39,x40⟩,c35,h20⟩:=Zad h18
   exact aq fol [.r [],.c false,.r [(2,q1 [oB x38])],.c true,.r [(2,q1 [.agg [L.arr .u64 4 x39],oB x40])],.s 1] [2,6] [2,6] (aK c21 (Zbe.snd c33) c34 (ZaV.snd c35)) (Zbd.p3_ok h20 hE)
  ·exact aq fol [.r [],.c false,.r [(2,q1 [oB x38])],.c false,.s 1] [2,6] [2,6] (aJ c21 (Zbe.snd c33) c34) (Zbd.p3_ok h19 hE)
theorem Zbd.snd {target_0_0:List Int} {r:(List Int)} (h:Zbd N target_0_0=some r):SndQ Tryz.prog 101 [.agg [L.arr .u64 4 target_0_0]] (Zbd.rs r):=fun st=>
 sO Zbd.B Tryz.func101 fun g0 w0 R hE=>by
  unfold Zbd at h
  obtain ⟨⟨x1,x2⟩,c1,h21⟩:=Zad h
  refine iteB h21 (fun c2 h22=>?_) (fun c2 h23=>?_)
  ·obtain rfl:=Zac h22
   exact af fol hE [.r [],.r [(0,{m:=3})],.r [(2,q1 [.agg [L.arr .u64 4 x1],oB x2])],.r [],.c true,.r []] [] 0 [] (aI (ZaV.snd c1) c2)
  ·refine iteB h23 (fun c3 h24=>?_) (fun c3 h25=>?_)
   ·obtain ⟨x3,c4,h26⟩:=Zad h24
    obtain rfl:=Zac h26
    exact af fol hE [.r [],.r [(0,{m:=3})],.r [(2,q1 [.agg [L.arr .u64 4 x1],oB x2])],.r [],.c false,.r [],.c true,.r [(0,q1 [.agg [L.arr .u64 4 x3]])]] [] 0 [] (aK (ZaV.snd c1) c2 c3 (Zcx.snd c4))
   ·obtain ⟨x4,c5,h27⟩:=Zad h25
    exact aq fol [.r [],.r [(0,{m:=3})],.r [(2,q1 [.agg [L.arr .u64 4 x1],oB x2])],.r [],.c false,.r [],.c false,.r [],.r [(0,q1 [.agg [L.arr .u64 4 x4]])],.r []] [1,2,3,4,6,7,8] [1,2,3,4,6,7] (aK (ZaV.snd c1) c2 c3 (Zcx.snd c5)) (At.loop N (At.loopN (fun y:Int×(List Int)×(List Int)=>Zbd.p1.S y.1 target_0_0 x1 y.2.1 y.2.2 st) (fun c J hc y h=>Zbd.p1_ok (i_5:=y.1) (out_23:=y.2.1) (rest_24:=y.2.2) h hE (fun i_5 out_23 rest_24=>hc (i_5,out_23,rest_24))) N (255,List.replicate 4 0,x4) h27))
noncomputable def ZbW.B:Code:=Tryz.f69.body.getD .skip
noncomputable def ZbW.rs (r:(List Int)):List CV:=[.agg [L.arr .u64 4 r]]
noncomputable def ZbW (N:Nat) (bits_0:Int):Option (List Int):=
 optE (ZaD N bits_0) fun (x1,x2,x3)=>
 if x2=true then
  some (List.replicate 4 0)
 else
 if x3=true then
  some (List.replicate 4 0)
 else
 if (x1==(List.replicate 4 0))=true then
  some (List.replicate 4 0)
 else
 optE (Zbd N x1) fun x4=>
 some x4
theorem ZbW.snd {bits_0:Int} {r:(List Int)} (h:ZbW N bits_0=some r):SndQ Tryz.prog 69 [oI bits_0] (ZbW.rs r):=fun st=>
 sO ZbW.B Tryz.func69 fun g0 w0 R hE=>by
  unfold ZbW at h
  obtain ⟨⟨x1,x2,x3⟩,c1,h1⟩:=Zad h
  refine iteB h1 (fun c2 h2=>?_) (fun c2 h3=>?_)
  ·obtain rfl:=Zac h2
   exact af fol hE [.r [],.r [(1,q1 [.agg [L.arr .u64 4 x1],oB x2,oB x3])],.r [(2,wF),(5,wF),(6,wF),(7,wF)],.c true,.r []] [] 0 [] (aO (ZaD.snd c1) c2 c2 eT eT eT eT eT)
  ·refine iteB h3 (fun c3 h4=>?_) (fun c3 h5=>?_)
   ·obtain rfl:=Zac h4
    exact af fol hE [.r [],.r [(1,q1 [.agg [L.arr .u64 4 x1],oB x2,oB x3])],.r [(3,yF),(5,wF),(6,wF),(7,wF)],.c true,.r []] [] 0 [] (aO (ZaD.snd c1) c2 c2 c3 c3 c3 c3 eT)
   ·refine iteB h5 (fun c4 h6=>?_) (fun c4 h7=>?_)
    ·obtain rfl:=Zac h6
     exact af fol hE [.r [],.r [(1,q1 [.agg [L.arr .u64 4 x1],oB x2,oB x3])],.r [(3,yF),(8,yF)],.c true,.r []] [] 0 [] (aO (ZaD.snd c1) c2 c2 c3 c3 c3 c3 c4)
    ·obtain ⟨x4,c5,h8⟩:=Zad h7
     obtain rfl:=Zac h8
     exact af fol hE [.r [],.r [(1,q1 [.agg [L.arr .u64 4 x1],oB x2,oB x3])],.r [(3,yF),(8,yF)],.c false,.r [(1,q1 [.agg [L.arr .u64 4 x4]])]] [] 0 [] (aO (ZaD.snd c1) c2 c2 c3 c3 c3 c3 (aI c4 (Zbd.snd c5)))
noncomputable def ZdF.B:Code:=Tryz.f30.body.getD .skip
noncomputable def ZdF.rs (r:(Option Nat)×LL):List CV:=[.one (L.ptr r.1)]
noncomputable def ZdF (N:Nat) (p_0:Zaf) (room_1:Int) (st:LL):Option ((Option Nat)×LL):=
 optE (Zch N p_0.Genesis) fun x1=>
 optE (ZbW N p_0.Genesis.Bits) fun x2=>
 some ((some (List.length st)),st ++ [Zab.lo (Zab.mk p_0 [p_0.Genesis.ls] [[L.arr .u8 32 x1]] [[L.int .i64 (-1)]] [[L.arr .u64 4 x2]] (if (512:Int)<(if (1:Int)>room_1 then 1 else room_1) then 512 else (if (1:Int)>room_1 then 1 else room_1)))])
theorem ZdF.snd {p_0:Zaf} {room_1:Int} {st:LL} {r:(Option Nat)×LL} (h:ZdF N p_0 room_1 st=some r):Snd Tryz.prog 30 [.agg p_0.ls,oI room_1] st (ZdF.rs r) r.2:=
 sO ZdF.B Tryz.func30 fun g0 w0 R hE=>by
  unfold ZdF at h
  obtain ⟨x1,c1,h1⟩:=Zad h
  obtain ⟨x2,c2,h2⟩:=Zad h1
  obtain rfl:=Zac h2
  exact afd fol hE [.r [],.d {ds:=[(6,q1 [.agg [L.arr .u8 32 x1]]),(12,q1 [.agg [L.arr .u64 4 x2]]),(17,{ns:=[15,16,17,18]}),(18,{m:=1,mv:=[8,12,13,18]})],hv:=270728,Hs:=[8,128,136,256,264,384,392,8192,8200,8320,8328,8448,8456,8576,8584,270728]}] [] 0 [] (aO (Zch.snd c1) (Zch.snd c1) (Zch.snd c1) (Zch.snd c1) (ZbW.snd c2) (ZbW.snd c2) (ZbW.snd c2) (aO (ZbW.snd c2) (ZbW.snd c2) (ZbW.snd c2) (ZbW.snd c2) (ZbW.snd c2) z0 (eN (1)) (aM z0 (eN (1)) z0 (eN (1)) z0 (eN (1)))))
noncomputable def Zdp.B:Code:=Tryz.f109.body.getD .skip
noncomputable def Zdp.rs (r:Int):List CV:=[oI r]
noncomputable def Zdp (N:Nat) (p_0:Zaf) (from_1 to_2:Int):Option Int:=
 some (if (w64 ((w64 (p_0.Interval*p_0.Spacing))*4))<(if (w64 (Int.tdiv (w64 (p_0.Interval*p_0.Spacing)) 4))>(w64 (to_2-from_1)) then (w64 (Int.tdiv (w64 (p_0.Interval*p_0.Spacing)) 4)) else (w64 (to_2-from_1))) then (w64 ((w64 (p_0.Interval*p_0.Spacing))*4)) else (if (w64 (Int.tdiv (w64 (p_0.Interval*p_0.Spacing)) 4))>(w64 (to_2-from_1)) then (w64 (Int.tdiv (w64 (p_0.Interval*p_0.Spacing)) 4)) else (w64 (to_2-from_1))))
theorem Zdp.snd {p_0:Zaf} {from_1 to_2:Int} {r:Int} (h:Zdp N p_0 from_1 to_2=some r):SndQ Tryz.prog 109 [.agg p_0.ls,oI from_1,oI to_2] (Zdp.rs r):=fun st=>
 sO Zdp.B Tryz.func109 fun g0 w0 R hE=>by
  unfold Zdp at h
  obtain rfl:=Zac h
  exact af fol hE [.r [],.r [],.r []] [] 0 [] (neI 4)
noncomputable def ZbC.B:Code:=Tryz.f152.body.getD .skip
noncomputable def ZbC.rs (r:Int):List CV:=[oI r]
noncomputable def ZbC (N:Nat) (x_0:Int):Option Int:=
 optE (Zax N x_0) fun x1=>
 some (w64 (64-x1))
theorem ZbC.snd {x_0:Int} {r:Int} (h:ZbC N x_0=some r):SndQ Tryz.prog 152 [.one (L.int .u64 x_0)] (ZbC.rs r):=fun st=>
 sO ZbC.B Tryz.func152 fun g0 w0 R hE=>by
  unfold ZbC at h
  obtain ⟨x1,c1,h1⟩:=Zad h
  obtain rfl:=Zac h1
  exact af fol hE [.r [],.r [(1,q1 [oI x1])]] [] 0 [] (Zax.snd c1)
end Go.Dn.F
