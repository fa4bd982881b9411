/- Contracts of functions of the program, as shallow functions, and their proofs. -/
import Derived.Test.YtcgdbcfflaphhaaGreatDoorFa
import Derived.Test.YtcgdbcfflaphhaaGreatDoorFaP
set_option linter.all false
set_option maxRecDepth 100000
namespace Go.Dn.F
open Go.Proofs
variable {N:Nat} {g0:G} {w0:World} {R:Exit→Act→World→Prop}
structure ZbL where
  Height:Int
  Version:Int
noncomputable def ZbL.ls (x:ZbL):List L:=[L.int .i64 x.Height,L.int .i64 x.Version]
noncomputable def Zdi {α:Type} (l:List L) (k:ZbL→Option α):Option α:=match l with
  | [L.int .i64 x0,L.int .i64 x1]=>k ⟨x0,x1⟩
  | _=>none
theorem Zdt {α:Type} {o:Option (List L)} {k:ZbL→Option α} {r:α} (h:getE o Zdi k=some r) : ∃x:ZbL,o=some x.ls∧k x=some r:=by
  obtain ⟨l,e,k1⟩:=Zac h;subst e;unfold Zdi at k1;split at k1
  · exact ⟨_,rfl,k1⟩
  · cases k1
@[simp] theorem ZdE {α:Type} (x:ZbL) (k:ZbL→Option α):Zdi x.ls k=k x:=rfl
theorem ZbL.bv {st:LL} (x:ZbL):BVs st x.ls x.ls:=(bP (bP bN))
structure ZbD where
  Height:Int
  Id:List Int
noncomputable def ZbD.ls (x:ZbD):List L:=[L.int .i64 x.Height,L.arr .u8 32 x.Id]
noncomputable def ZcW {α:Type} (l:List L) (k:ZbD→Option α):Option α:=match l with
  | [L.int .i64 x0,L.arr .u8 32 x1]=>k ⟨x0,x1⟩
  | _=>none
theorem Zdo {α:Type} {o:Option (List L)} {k:ZbD→Option α} {r:α} (h:getE o ZcW k=some r) : ∃x:ZbD,o=some x.ls∧k x=some r:=by
  obtain ⟨l,e,k1⟩:=Zac h;subst e;unfold ZcW at k1;split at k1
  · exact ⟨_,rfl,k1⟩
  · cases k1
@[simp] theorem Zdu {α:Type} (x:ZbD) (k:ZbD→Option α):ZcW x.ls k=k x:=rfl
theorem ZbD.bv {st:LL} (x:ZbD):BVs st x.ls x.ls:=(bP (bP bN))
structure Zal where
  rules:Zag
  list:LL
  spots:LL
  places:LM
  room:Int
noncomputable def Zal.lo (x:Zal):List L:=[L.int .i64 x.rules.Limit,L.int .i64 x.rules.Interval,L.int .i64 x.rules.Spacing,L.int .i64 x.rules.Future,L.bool x.rules.Easy,L.sl 2 x.rules.Gates,L.sl 33 x.rules.Checks,L.arr .u64 4 x.rules.MinWork,L.arr .u64 4 x.rules.Margin,L.int .i64 x.rules.Genesis.Version,L.arr .u8 32 x.rules.Genesis.Prev,L.arr .u8 32 x.rules.Genesis.Root,L.int .i64 x.rules.Genesis.Time,L.int .i64 x.rules.Genesis.Bits,L.int .i64 x.rules.Genesis.Nonce,L.own true 106 x.list,L.own true 38 x.spots,L.mp x.places,L.int .i64 x.room]
noncomputable def ZaF {α:Type} (l:List L) (k:Zal→Option α):Option α:=match l with
  | [L.int .i64 x0,L.int .i64 x1,L.int .i64 x2,L.int .i64 x3,L.bool x4,L.sl 2 x5,L.sl 33 x6,L.arr .u64 4 x7,L.arr .u64 4 x8,L.int .i64 x9,L.arr .u8 32 x10,L.arr .u8 32 x11,L.int .i64 x12,L.int .i64 x13,L.int .i64 x14,L.own true 106 x15,L.own true 38 x16,L.mp x17,L.int .i64 x18]=>k ⟨⟨x0,x1,x2,x3,x4,x5,x6,x7,x8,⟨x9,x10,x11,x12,x13,x14⟩⟩,x15,x16,x17,x18⟩
  | _=>none
theorem ZaA {α:Type} {o:Option (List L)} {k:Zal→Option α} {r:α} (h:getE o ZaF k=some r) : ∃x:Zal,o=some x.lo∧k x=some r:=by
  obtain ⟨l,e,k1⟩:=Zac h;subst e;unfold ZaF at k1;split at k1
  · exact ⟨_,rfl,k1⟩
  · cases k1
@[simp] theorem ZaQ {α:Type} (x:Zal) (k:Zal→Option α):ZaF x.lo k=k x:=rfl
noncomputable def Zal.ls (x:Zal):List L:=[L.int .i64 x.rules.Limit,L.int .i64 x.rules.Interval,L.int .i64 x.rules.Spacing,L.int .i64 x.rules.Future,L.bool x.rules.Easy,L.sl 2 x.rules.Gates,L.sl 33 x.rules.Checks,L.arr .u64 4 x.rules.MinWork,L.arr .u64 4 x.rules.Margin,L.int .i64 x.rules.Genesis.Version,L.arr .u8 32 x.rules.Genesis.Prev,L.arr .u8 32 x.rules.Genesis.Root,L.int .i64 x.rules.Genesis.Time,L.int .i64 x.rules.Genesis.Bits,L.int .i64 x.rules.Genesis.Nonce,L.sl 106 x.list,L.sl 38 x.spots,L.mz x.places,L.int .i64 x.room]
theorem Zal.bv {st:LL} (x:Zal):BVs st x.lo x.ls:=(bP (bP (bP (bP (bP (bS (bS (bP (bP (bP (bP (bP (bP (bP (bP (bW (bW (bM (bP bN)))))))))))))))))))
structure Zbl where
  Header:Zan
  Id:List Int
  Ahead:Int
  Height:Int
  Work:List Int
noncomputable def Zbl.ls (x:Zbl):List L:=[L.int .i64 x.Header.Version,L.arr .u8 32 x.Header.Prev,L.arr .u8 32 x.Header.Root,L.int .i64 x.Header.Time,L.int .i64 x.Header.Bits,L.int .i64 x.Header.Nonce,L.arr .u8 32 x.Id,L.int .i64 x.Ahead,L.int .i64 x.Height,L.arr .u64 4 x.Work]
noncomputable def ZcG {α:Type} (l:List L) (k:Zbl→Option α):Option α:=match l with
  | [L.int .i64 x0,L.arr .u8 32 x1,L.arr .u8 32 x2,L.int .i64 x3,L.int .i64 x4,L.int .i64 x5,L.arr .u8 32 x6,L.int .i64 x7,L.int .i64 x8,L.arr .u64 4 x9]=>k ⟨⟨x0,x1,x2,x3,x4,x5⟩,x6,x7,x8,x9⟩
  | _=>none
theorem ZcV {α:Type} {o:Option (List L)} {k:Zbl→Option α} {r:α} (h:getE o ZcG k=some r) : ∃x:Zbl,o=some x.ls∧k x=some r:=by
  obtain ⟨l,e,k1⟩:=Zac h;subst e;unfold ZcG at k1;split at k1
  · exact ⟨_,rfl,k1⟩
  · cases k1
@[simp] theorem Zdb {α:Type} (x:Zbl) (k:Zbl→Option α):ZcG x.ls k=k x:=rfl
theorem Zbl.bv {st:LL} (x:Zbl):BVs st x.ls x.ls:=(bP (bP (bP (bP (bP (bP (bP (bP (bP (bP bN))))))))))
structure Zaj where
  store:Zal
  leaps:LL
noncomputable def Zaj.ls (x:Zaj):List L:=[L.bx 87 x.store.ls,L.sl 1 x.leaps]
structure ZaR where
  Header:Zan
  Now:Int
noncomputable def ZaR.ls (x:ZaR):List L:=[L.int .i64 x.Header.Version,L.arr .u8 32 x.Header.Prev,L.arr .u8 32 x.Header.Root,L.int .i64 x.Header.Time,L.int .i64 x.Header.Bits,L.int .i64 x.Header.Nonce,L.int .i64 x.Now]
noncomputable def Zci {α:Type} (l:List L) (k:ZaR→Option α):Option α:=match l with
  | [L.int .i64 x0,L.arr .u8 32 x1,L.arr .u8 32 x2,L.int .i64 x3,L.int .i64 x4,L.int .i64 x5,L.int .i64 x6]=>k ⟨⟨x0,x1,x2,x3,x4,x5⟩,x6⟩
  | _=>none
theorem Zdg {α:Type} {o:Option (List L)} {k:ZaR→Option α} {r:α} (h:getE o Zci k=some r) : ∃x:ZaR,o=some x.ls∧k x=some r:=by
  obtain ⟨l,e,k1⟩:=Zac h;subst e;unfold Zci at k1;split at k1
  · exact ⟨_,rfl,k1⟩
  · cases k1
@[simp] theorem Zds {α:Type} (x:ZaR) (k:ZaR→Option α):Zci x.ls k=k x:=rfl
theorem ZaR.bv {st:LL} (x:ZaR):BVs st x.ls x.ls:=(bP (bP (bP (bP (bP (bP (bP bN)))))))
noncomputable def ZfD {α:Type} (l:List L) (k:(List Int)→Option α):Option α:=match l with
  | [L.arr .u64 4 x0]=>k x0
  | _=>none
theorem ZhL {α:Type} {o:Option (List L)} {k:(List Int)→Option α} {r:α} (h:getE o ZfD k=some r) : ∃x0,o=some [L.arr .u64 4 x0]∧k x0=some r:=by
  obtain ⟨l,e,k1⟩:=Zac h;subst e;unfold ZfD at k1;split at k1
  · exact ⟨_,rfl,k1⟩
  · cases k1
@[simp] theorem dec_u64x4_ls {α:Type} (x0:List Int) (k:(List Int)→Option α):ZfD [L.arr .u64 4 x0] k=k x0:=rfl
noncomputable def ZbF {α:Type} (l:List L) (k:(Option Nat)→LL→Option α):Option α:=match l with
  | [L.ptr x0,L.own true 1 x1]=>k x0 x1
  | _=>none
theorem Zbt {α:Type} {o:Option (List L)} {k:(Option Nat)→LL→Option α} {r:α} (h:getE o ZbF k=some r) : ∃x0 x1,o=some [L.ptr x0,L.own true 1 x1]∧k x0 x1=some r:=by
  obtain ⟨l,e,k1⟩:=Zac h;subst e;unfold ZbF at k1;split at k1
  · exact ⟨_,_,rfl,k1⟩
  · cases k1
@[simp] theorem ZbY {α:Type} (x0:Option Nat) (x1:LL) (k:(Option Nat)→LL→Option α):ZbF [L.ptr x0,L.own true 1 x1] k=k x0 x1:=rfl
theorem slices_Sort_int.snd:SortC Tryz.prog 195:=slices_Sort_int.holds
theorem ZcD.snd {x y z:Int} {r:Int×Int} (h:ZcD N x y z=some r):ExtI Tryz.prog 205 [(.u64,x),(.u64,y),(.u64,z)] [(.u64,r.1),(.u64,r.2)]:=Zha Tryz.func205 (by kernel_rfl) (by kernel_rfl) (by kernel_rfl) (by kernel_rfl) h
theorem Zdq.snd {x y z:Int} {r:Int×Int} (h:Zdq N x y z=some r):ExtI Tryz.prog 223 [(.u64,x),(.u64,y),(.u64,z)] [(.u64,r.1),(.u64,r.2)]:=ZgZ Tryz.func223 (by kernel_rfl) (by kernel_rfl) (by kernel_rfl) (by kernel_rfl) h
noncomputable def Zcg.B:Code:=Tryz.f176.body.getD .skip
noncomputable def Zcg.rs (r:(List Int)):List CV:=[.agg [L.arr .u64 4 r]]
noncomputable def Zcg (N:Nat) (n_0:Int):Option (List Int):=
 some [n_0,0,0,0]
theorem Zcg.snd {n_0:Int} {r:(List Int)} (h:Zcg N n_0=some r):SndQ Tryz.prog 176 [.one (L.int .u64 n_0)] (Zcg.rs r):=fun st=>
 sO Zcg.B Tryz.func176 fun g0 w0 R hE=>by
  unfold Zcg at h
  obtain rfl:=Zaa h
  exact af fol hE [.r [],.r [(1,{m:=3})]] [] 0 [] trivial
noncomputable def ZaJ.B:Code:=Tryz.f177.body.getD .skip
noncomputable def ZaJ.rs (r:(List Int)):List CV:=[.agg [L.arr .u64 4 r]]
noncomputable def ZaJ.p2 (N:Nat) (c1_:(Int×(List Int))→Option (List Int)) (n_1 v1:Int) (a_0_0 out_4:List Int):Option (List Int):=
 c1_ (w64 (v1+1),out_4)
noncomputable def ZaJ.p1 (N:Nat) (n_1:Int) (a_0_0:List Int) (c1_:(Int×(List Int))→Option (List Int)):(Int×(List Int))→Option (List Int):=fun (v1,out_3)=>
 if (decide (v1<(w64 (4-(w64 (Int.tdiv (if (0:Int)>n_1 then 0 else n_1) 64))))))=true then
  chk (0≤(w64 (v1+(w64 (Int.tdiv (if (0:Int)>n_1 then 0 else n_1) 64)))))<|
  chk ((w64 (v1+(w64 (Int.tdiv (if (0:Int)>n_1 then 0 else n_1) 64))))<4)<|
  chk (0≤(Int.tmod (if (0:Int)>n_1 then 0 else n_1) 64))<|
  chk (0≤v1)<|
  chk (v1<4)<|
  if (decide ((w64 ((w64 (v1+(w64 (Int.tdiv (if (0:Int)>n_1 then 0 else n_1) 64))))+1))<4))=true then
   chk (0≤(w64 ((w64 (v1+(w64 (Int.tdiv (if (0:Int)>n_1 then 0 else n_1) 64))))+1)))<|
   chk (0≤(w64 (64-(Int.tmod (if (0:Int)>n_1 then 0 else n_1) 64))))<|
   ZaJ.p2 N c1_ n_1 v1 a_0_0 (List.set (List.set out_3 (Int.toNat v1) (shrOf .u64 (List.getD a_0_0 (Int.toNat (w64 (v1+(w64 (Int.tdiv (if (0:Int)>n_1 then 0 else n_1) 64))))) 0) (Int.tmod (if (0:Int)>n_1 then 0 else n_1) 64))) (Int.toNat v1) (bitsOf .or .u64 (List.getD (List.set out_3 (Int.toNat v1) (shrOf .u64 (List.getD a_0_0 (Int.toNat (w64 (v1+(w64 (Int.tdiv (if (0:Int)>n_1 then 0 else n_1) 64))))) 0) (Int.tmod (if (0:Int)>n_1 then 0 else n_1) 64))) (Int.toNat v1) 0) (shlOf .u64 (List.getD a_0_0 (Int.toNat (w64 ((w64 (v1+(w64 (Int.tdiv (if (0:Int)>n_1 then 0 else n_1) 64))))+1))) 0) (w64 (64-(Int.tmod (if (0:Int)>n_1 then 0 else n_1) 64))))))
  else
  ZaJ.p2 N c1_ n_1 v1 a_0_0 (List.set out_3 (Int.toNat v1) (shrOf .u64 (List.getD a_0_0 (Int.toNat (w64 (v1+(w64 (Int.tdiv (if (0:Int)>n_1 then 0 else n_1) 64))))) 0) (Int.tmod (if (0:Int)>n_1 then 0 else n_1) 64)))
 else
 some out_3
noncomputable def ZaJ (N:Nat) (a_0_0:List Int) (n_1:Int):Option (List Int):=
 if (decide (n_1≥256))=true then
  some (List.replicate 4 0)
 else
 loopN (ZaJ.p1 N n_1 a_0_0) N (0,List.replicate 4 0)
noncomputable def ZaJ.p2.S (n_1 v1:Int) (a_0_0 out_4:List Int) (st:LL):S:=mkS 53 [(2,sA 2),(4,sA 4),(5,sA 5),(6,sI (w64 (Int.tdiv (if (0:Int)>n_1 then 0 else n_1) 64))),(7,sI (Int.tmod (if (0:Int)>n_1 then 0 else n_1) 64)),(19,sI (w64 (4-(w64 (Int.tdiv (if (0:Int)>n_1 then 0 else n_1) 64))))),(20,sI v1)] [(2,.cells [L.arr .u64 4 a_0_0]),(4,.cells [L.arr .u64 4 (List.replicate 4 0)]),(5,.cells [L.arr .u64 4 out_4])] st
noncomputable def ZaJ.p1.S (n_1 v1:Int) (a_0_0 out_3:List Int) (st:LL):S:=mkS 53 [(2,sA 2),(4,sA 4),(5,sA 5),(6,sI (w64 (Int.tdiv (if (0:Int)>n_1 then 0 else n_1) 64))),(7,sI (Int.tmod (if (0:Int)>n_1 then 0 else n_1) 64)),(19,sI (w64 (4-(w64 (Int.tdiv (if (0:Int)>n_1 then 0 else n_1) 64))))),(20,sI v1)] [(2,.cells [L.arr .u64 4 a_0_0]),(4,.cells [L.arr .u64 4 (List.replicate 4 0)]),(5,.cells [L.arr .u64 4 out_3])] st
theorem ZaJ.p2_ok {n_1 v1 a_0_0 out_4 st r c1_ J1} (h:ZaJ.p2 N c1_ n_1 v1 a_0_0 out_4=some r) (hE:En Tryz.f177 g0 w0 (ZaJ.rs r) st R) (hc1 : ∀v1 out_3,c1_ (v1,out_3)=some r→At g0 w0 (ZaJ.p1.S n_1 v1 a_0_0 out_3 st) J1):At g0 w0 (ZaJ.p2.S n_1 v1 a_0_0 out_4 st) (XK Tryz.prog R [.c (csub ZaJ.B [1,1,1,1,0,1,0,0,1,1,1]),.h J1,.b 0,.c (csub ZaJ.B [1,1,1,1,1])]):=by
 unfold ZaJ.p2 at h
 exact an fol [.r []] [2,4,5,6,7,19,20] [2,4,5] trivial (hc1 (w64 (v1+1)) out_4 h)
theorem ZaJ.p1_ok {n_1 v1 a_0_0 out_3 st r c1_ J1} (h:ZaJ.p1 N n_1 a_0_0 c1_ (v1,out_3)=some r) (hE:En Tryz.f177 g0 w0 (ZaJ.rs r) st R) (hc1 : ∀v1 out_3,c1_ (v1,out_3)=some r→At g0 w0 (ZaJ.p1.S n_1 v1 a_0_0 out_3 st) J1):At g0 w0 (ZaJ.p1.S n_1 v1 a_0_0 out_3 st) (XK Tryz.prog R (.c (csub ZaJ.B [1,1,1,1,0,1,0,0]) :: .h J1 :: [.b 0,.c (csub ZaJ.B [1,1,1,1,1])])):=by
 unfold ZaJ.p1 at h
 refine iteB h (fun c11 h1=>?_) (fun c11 h2=>?_)
 ·obtain ⟨c12,c13,c14,c15,c16,h3⟩:=ck5 h1
  let o1:List PS:=[.r [],.c true,.r [],.r [],.r []]
  refine iteB h3 (fun c17 h4=>?_) (fun c17 h5=>?_)
  ·obtain ⟨c18,c19,h6⟩:=ck2 h4
   exact aqd fol (o1 ++ [.c true,.d {ds:=[],hv:=16384,Hs:=[16384]},.s 4]) [2,4,5,6,7,19,20] [2,4,5] (aO c11 c12 c13 c14 c15 c16 c17 (aN c15 c16 c18 (oD c17) c19 c15 c16)) (ZaJ.p2_ok h6 hE hc1)
  ·exact aq fol (o1 ++ [.c false,.s 4]) [2,4,5,6,7,19,20] [2,4,5] (aN c11 c12 c13 c14 c15 c16 c17) (ZaJ.p2_ok h5 hE hc1)
 ·obtain rfl:=Zaa h2
  exact af fol hE [.r [],.c false,.r []] [] 0 [] c11
theorem ZaJ.snd {a_0_0:List Int} {n_1:Int} {r:(List Int)} (h:ZaJ N a_0_0 n_1=some r):SndQ Tryz.prog 177 [.agg [L.arr .u64 4 a_0_0],oI n_1] (ZaJ.rs r):=fun st=>
 sO ZaJ.B Tryz.func177 fun g0 w0 R hE=>by
  unfold ZaJ at h
  refine iteB h (fun c1 h7=>?_) (fun c1 h8=>?_)
  ·obtain rfl:=Zaa h7
   exact af fol hE [.r [],.r [],.c true,.r []] [] 0 [] c1
  ·exact aq fol [.r [],.r [],.c false,.r [],.r [],.r []] [2,4,5,6,7,19,20] [2,4,5] (aJ c1 (neI 64) (neI 64)) (At.loop N (At.loopN (fun y:Int×(List Int)=>ZaJ.p1.S n_1 y.1 a_0_0 y.2 st) (fun c J hc y h=>ZaJ.p1_ok (v1:=y.1) (out_3:=y.2) h hE (fun v1 out_3=>hc (v1,out_3))) N (0,List.replicate 4 0) h8))
noncomputable def Zba.B:Code:=Tryz.f178.body.getD .skip
noncomputable def Zba.rs (r:(List Int)):List CV:=[.agg [L.arr .u64 4 r]]
noncomputable def Zba.p2 (N:Nat) (c1_:(Int×(List Int))→Option (List Int)) (n_1 i_1:Int) (a_0_0 out_4:List Int):Option (List Int):=
 c1_ (w64 (i_1+1),out_4)
noncomputable def Zba.p1 (N:Nat) (n_1:Int) (a_0_0:List Int) (c1_:(Int×(List Int))→Option (List Int)):(Int×(List Int))→Option (List Int):=fun (i_1,out_3)=>
 if (decide (i_1<4))=true then
  chk (0≤(w64 (i_1-(w64 (Int.tdiv (if (0:Int)>n_1 then 0 else n_1) 64)))))<|
  chk ((w64 (i_1-(w64 (Int.tdiv (if (0:Int)>n_1 then 0 else n_1) 64))))<4)<|
  chk (0≤(Int.tmod (if (0:Int)>n_1 then 0 else n_1) 64))<|
  chk (0≤i_1)<|
  if (decide (i_1>(w64 (Int.tdiv (if (0:Int)>n_1 then 0 else n_1) 64))))=true then
   chk (0≤(w64 ((w64 (i_1-(w64 (Int.tdiv (if (0:Int)>n_1 then 0 else n_1) 64))))-1)))<|
   chk ((w64 ((w64 (i_1-(w64 (Int.tdiv (if (0:Int)>n_1 then 0 else n_1) 64))))-1))<4)<|
   chk (0≤(w64 (64-(Int.tmod (if (0:Int)>n_1 then 0 else n_1) 64))))<|
   Zba.p2 N c1_ n_1 i_1 a_0_0 (List.set (List.set out_3 (Int.toNat i_1) (shlOf .u64 (List.getD a_0_0 (Int.toNat (w64 (i_1-(w64 (Int.tdiv (if (0:Int)>n_1 then 0 else n_1) 64))))) 0) (Int.tmod (if (0:Int)>n_1 then 0 else n_1) 64))) (Int.toNat i_1) (bitsOf .or .u64 (List.getD (List.set out_3 (Int.toNat i_1) (shlOf .u64 (List.getD a_0_0 (Int.toNat (w64 (i_1-(w64 (Int.tdiv (if (0:Int)>n_1 then 0 else n_1) 64))))) 0) (Int.tmod (if (0:Int)>n_1 then 0 else n_1) 64))) (Int.toNat i_1) 0) (shrOf .u64 (List.getD a_0_0 (Int.toNat (w64 ((w64 (i_1-(w64 (Int.tdiv (if (0:Int)>n_1 then 0 else n_1) 64))))-1))) 0) (w64 (64-(Int.tmod (if (0:Int)>n_1 then 0 else n_1) 64))))))
  else
  Zba.p2 N c1_ n_1 i_1 a_0_0 (List.set out_3 (Int.toNat i_1) (shlOf .u64 (List.getD a_0_0 (Int.toNat (w64 (i_1-(w64 (Int.tdiv (if (0:Int)>n_1 then 0 else n_1) 64))))) 0) (Int.tmod (if (0:Int)>n_1 then 0 else n_1) 64)))
 else
 some out_3
noncomputable def Zba (N:Nat) (a_0_0:List Int) (n_1:Int):Option (List Int):=
 if (decide (n_1≥256))=true then
  some (List.replicate 4 0)
 else
 loopN (Zba.p1 N n_1 a_0_0) N (w64 (Int.tdiv (if (0:Int)>n_1 then 0 else n_1) 64),List.replicate 4 0)
noncomputable def Zba.p2.S (n_1 i_1:Int) (a_0_0 out_4:List Int) (st:LL):S:=mkS 50 [(2,sA 2),(4,sA 4),(5,sA 5),(6,sI (w64 (Int.tdiv (if (0:Int)>n_1 then 0 else n_1) 64))),(7,sI (Int.tmod (if (0:Int)>n_1 then 0 else n_1) 64)),(8,sI i_1)] [(2,.cells [L.arr .u64 4 a_0_0]),(4,.cells [L.arr .u64 4 (List.replicate 4 0)]),(5,.cells [L.arr .u64 4 out_4])] st
noncomputable def Zba.p1.S (n_1 i_1:Int) (a_0_0 out_3:List Int) (st:LL):S:=mkS 50 [(2,sA 2),(4,sA 4),(5,sA 5),(6,sI (w64 (Int.tdiv (if (0:Int)>n_1 then 0 else n_1) 64))),(7,sI (Int.tmod (if (0:Int)>n_1 then 0 else n_1) 64)),(8,sI i_1)] [(2,.cells [L.arr .u64 4 a_0_0]),(4,.cells [L.arr .u64 4 (List.replicate 4 0)]),(5,.cells [L.arr .u64 4 out_3])] st
theorem Zba.p2_ok {n_1 i_1 a_0_0 out_4 st r c1_ J1} (h:Zba.p2 N c1_ n_1 i_1 a_0_0 out_4=some r) (hE:En Tryz.f178 g0 w0 (Zba.rs r) st R) (hc1 : ∀i_1 out_3,c1_ (i_1,out_3)=some r→At g0 w0 (Zba.p1.S n_1 i_1 a_0_0 out_3 st) J1):At g0 w0 (Zba.p2.S n_1 i_1 a_0_0 out_4 st) (XK Tryz.prog R [.c (csub Zba.B [1,1,1,1,0,1,0,0,1,1]),.h J1,.b 0,.c (csub Zba.B [1,1,1,1,1])]):=by
 unfold Zba.p2 at h
 exact an fol [.r []] [2,4,5,6,7,8] [2,4,5] trivial (hc1 (w64 (i_1+1)) out_4 h)
theorem Zba.p1_ok {n_1 i_1 a_0_0 out_3 st r c1_ J1} (h:Zba.p1 N n_1 a_0_0 c1_ (i_1,out_3)=some r) (hE:En Tryz.f178 g0 w0 (Zba.rs r) st R) (hc1 : ∀i_1 out_3,c1_ (i_1,out_3)=some r→At g0 w0 (Zba.p1.S n_1 i_1 a_0_0 out_3 st) J1):At g0 w0 (Zba.p1.S n_1 i_1 a_0_0 out_3 st) (XK Tryz.prog R (.c (csub Zba.B [1,1,1,1,0,1,0,0]) :: .h J1 :: [.b 0,.c (csub Zba.B [1,1,1,1,1])])):=by
 unfold Zba.p1 at h
 refine iteB h (fun c11 h1=>?_) (fun c11 h2=>?_)
 ·obtain ⟨c12,c13,c14,c15,h3⟩:=ck4 h1
  refine iteB h3 (fun c16 h4=>?_) (fun c16 h5=>?_)
  ·obtain ⟨c17,c18,c19,h6⟩:=ck3 h4
   exact aqd fol [.r [],.c true,.r [],.r [],.c true,.d {ds:=[],hv:=16384,Hs:=[16384]},.s 4] [2,4,5,6,7,8] [2,4,5] (aO c11 c12 c13 c14 c15 (oD c11) c16 (aN c15 (oD c11) c17 c18 c19 c15 (oD c11))) (Zba.p2_ok h6 hE hc1)
  ·exact aq fol [.r [],.c true,.r [],.r [],.c false,.s 4] [2,4,5,6,7,8] [2,4,5] (aN c11 c12 c13 c14 c15 (oD c11) c16) (Zba.p2_ok h5 hE hc1)
 ·obtain rfl:=Zaa h2
  exact af fol hE [.r [],.c false,.r []] [] 0 [] c11
theorem Zba.snd {a_0_0:List Int} {n_1:Int} {r:(List Int)} (h:Zba N a_0_0 n_1=some r):SndQ Tryz.prog 178 [.agg [L.arr .u64 4 a_0_0],oI n_1] (Zba.rs r):=fun st=>
 sO Zba.B Tryz.func178 fun g0 w0 R hE=>by
  unfold Zba at h
  refine iteB h (fun c1 h7=>?_) (fun c1 h8=>?_)
  ·obtain rfl:=Zaa h7
   exact af fol hE [.r [],.r [],.c true,.r []] [] 0 [] c1
  ·exact aq fol [.r [],.r [],.c false,.r [],.r [],.r []] [2,4,5,6,7,8] [2,4,5] (aJ c1 (neI 64) (neI 64)) (At.loop N (At.loopN (fun y:Int×(List Int)=>Zba.p1.S n_1 y.1 a_0_0 y.2 st) (fun c J hc y h=>Zba.p1_ok (i_1:=y.1) (out_3:=y.2) h hE (fun i_1 out_3=>hc (i_1,out_3))) N (w64 (Int.tdiv (if (0:Int)>n_1 then 0 else n_1) 64),List.replicate 4 0) h8))
noncomputable def Zaw.B:Code:=Tryz.f116.body.getD .skip
noncomputable def Zaw.rs (r:(List Int)×Bool×Bool):List CV:=[.agg [L.arr .u64 4 r.1],oB r.2.1,oB r.2.2]
noncomputable def Zaw.p2 (N:Nat) (bits_0:Int) (below_6:Bool) (n_5:List Int):Option ((List Int)×Bool×Bool):=
 if ((bitsOf .and .i64 bits_0 8388607) != 0)=true then
  if (decide ((shrOf .i64 bits_0 24)>34))=true then
   some (n_5,below_6,true)
  else
  if (decide ((bitsOf .and .i64 bits_0 8388607)>255))=true then
   if (decide ((shrOf .i64 bits_0 24)>33))=true then
    some (n_5,below_6,true)
   else
   if (decide ((bitsOf .and .i64 bits_0 8388607)>65535))=true then
    some (n_5,below_6,decide ((shrOf .i64 bits_0 24)>32))
   else
   some (n_5,below_6,false)
  else
  if (decide ((bitsOf .and .i64 bits_0 8388607)>65535))=true then
   some (n_5,below_6,decide ((shrOf .i64 bits_0 24)>32))
  else
  some (n_5,below_6,false)
 else
 some (n_5,below_6,false)
noncomputable def Zaw.p1 (N:Nat) (bits_0:Int) (n_5:List Int):Option ((List Int)×Bool×Bool):=
 if ((bitsOf .and .i64 bits_0 8388607) != 0)=true then
  Zaw.p2 N bits_0 ((bitsOf .and .i64 bits_0 8388608) != 0) n_5
 else
 Zaw.p2 N bits_0 false n_5
noncomputable def Zaw (N:Nat) (bits_0:Int):Option ((List Int)×Bool×Bool):=
 optE (Zcf N bits_0) fun x1=>
 if (!x1)=true then
  some (List.replicate 4 0,false,false)
 else
 optE (Zcg N (v64 (bitsOf .and .i64 bits_0 8388607))) fun x2=>
 if (decide ((shrOf .i64 bits_0 24)≤3))=true then
  optE (ZaJ N x2 (w64 (8*(w64 (3-(shrOf .i64 bits_0 24)))))) fun x3=>
  Zaw.p1 N bits_0 x3
 else
 optE (Zba N x2 (w64 (8*(w64 ((shrOf .i64 bits_0 24)-3))))) fun x4=>
 Zaw.p1 N bits_0 x4
noncomputable def Zaw.p2.S (bits_0:Int) (below_6:Bool) (n_5:List Int) (st:LL):S:=mkS 65 [(2,sA 2),(5,sI (shrOf .i64 bits_0 24)),(6,sI (bitsOf .and .i64 bits_0 8388607)),(7,sA 7),(8,.one (.l (L.bool below_6)))] [(2,.cells [L.arr .u64 4 (List.replicate 4 0)]),(7,.cells [L.arr .u64 4 n_5])] st
noncomputable def Zaw.p1.S (bits_0:Int) (n_5:List Int) (st:LL):S:=mkS 65 [(0,sI bits_0),(2,sA 2),(5,sI (shrOf .i64 bits_0 24)),(6,sI (bitsOf .and .i64 bits_0 8388607)),(7,sA 7)] [(2,.cells [L.arr .u64 4 (List.replicate 4 0)]),(7,.cells [L.arr .u64 4 n_5])] st
theorem Zaw.p2_ok {bits_0 below_6 n_5 st r} (h:Zaw.p2 N bits_0 below_6 n_5=some r) (hE:En Tryz.f116 g0 w0 (Zaw.rs r) st R):At g0 w0 (Zaw.p2.S bits_0 below_6 n_5 st) (XK Tryz.prog R [.c (csub Zaw.B [1,1,1,1,1,1])]):=by
 unfold Zaw.p2 at h
 refine iteB h (fun c8 h1=>?_) (fun c8 h2=>?_)
 ·have t1 {Q:Prop} (q:Q):=aK c8 c8 c8 q
  refine iteB h1 (fun c9 h3=>?_) (fun c9 h4=>?_)
  ·obtain rfl:=Zaa h3
   exact af fol hE [.r [(6,wF),(7,wF),(8,wF),(11,wF),(14,wF),(15,wF),(16,wF),(19,wF)],.r []] [] 0 [] (t1 (aO c9 c9 c9 c9 c8 c9 c8 (aN eT eT eT eT c8 eT c8)))
  ·have t2 {Q:Prop} (q:Q):=t1 (aK c9 c9 c9 q)
   refine iteB h4 (fun c10 h5=>?_) (fun c10 h6=>?_)
   ·have t3 {Q:Prop} (q:Q):=t2 (aO c10 c10 c9 c10 c8 c9 c8 q)
    refine iteB h5 (fun c11 h7=>?_) (fun c11 h8=>?_)
    ·obtain rfl:=Zaa h7
     exact af fol hE [.r [(12,yF),(14,wF),(15,wF),(16,wF),(19,wF)],.r []] [] 0 [] (t3 (aN c11 c11 c11 c11 c8 c11 c8))
    ·refine iteB h8 (fun c12 h9=>?_) (fun c12 h10=>?_)
     ·obtain rfl:=Zaa h9
      exact af fol hE [.r [(12,yF),(20,yF)],.r []] [] 0 [] (t3 (aO c11 c11 c11 c12 c12 c11 c12 (aJ c8 c11 c8)))
     ·obtain rfl:=Zaa h10
      exact af fol hE [.r [(12,yF),(17,wF),(18,wF),(19,yF),(20,yF)],.r []] [] 0 [] (t3 (aO c11 c11 c11 c12 c12 c11 c12 (aJ c8 c11 c8)))
   ·have t4 {Q:Prop} (q:Q):=t2 (aO c10 c10 c9 c10 c8 c9 c8 (aK eF eF eF q))
    refine iteB h6 (fun c13 h11=>?_) (fun c13 h12=>?_)
    ·obtain rfl:=Zaa h11
     exact af fol hE [.r [(9,wF),(10,wF),(11,yF),(12,yF),(20,yF)],.r []] [] 0 [] (t4 (aN c13 c13 eF c13 c8 eF c8))
    ·obtain rfl:=Zaa h12
     exact af fol hE [.r [(9,wF),(10,wF),(11,yF),(12,yF),(17,wF),(18,wF),(19,yF),(20,yF)],.r []] [] 0 [] (t4 (aN c13 c13 eF c13 c8 eF c8))
 ·obtain rfl:=Zaa h2
  exact af fol hE [.r [(3,wF),(4,wF),(5,wF),(12,wF),(13,wF),(20,wF),(21,yF)],.r []] [] 0 [] (aN c8 c8 c8 c8 c8 c8 c8)
theorem Zaw.p1_ok {bits_0 n_5 st r} (h:Zaw.p1 N bits_0 n_5=some r) (hE:En Tryz.f116 g0 w0 (Zaw.rs r) st R):At g0 w0 (Zaw.p1.S bits_0 n_5 st) (XK Tryz.prog R [.c (csub Zaw.B [1,1,1,1,1])]):=by
 unfold Zaw.p1 at h
 refine iteB h (fun c7 h13=>?_) (fun c7 h14=>?_)
 ·exact aq fol [.r [],.s 1] [2,5,6,7,8] [2,7] (aK c7 c7 c7 c7) (Zaw.p2_ok h13 hE)
 ·exact aq fol [.r [(3,wF),(4,wF),(5,wF),(6,yF)],.s 1] [2,5,6,7,8] [2,7] (aK c7 c7 c7 c7) (Zaw.p2_ok h14 hE)
theorem Zaw.snd {bits_0:Int} {r:(List Int)×Bool×Bool} (h:Zaw N bits_0=some r):SndQ Tryz.prog 116 [oI bits_0] (Zaw.rs r):=fun st=>
 sO Zaw.B Tryz.func116 fun g0 w0 R hE=>by
  unfold Zaw at h
  obtain ⟨x1,c1,h15⟩:=Zac h
  let o1:List PS:=[.r [],.r [(1,q1 [oB x1])]]
  have t5 {Q:Prop} (q:Q):=aI (Zcf.snd c1) q
  refine iteB h15 (fun c2 h16=>?_) (fun c2 h17=>?_)
  ·obtain rfl:=Zaa h16
   exact af fol hE (o1 ++ [.c true,.r []]) [] 0 [] (t5 c2)
  ·obtain ⟨x2,c3,h18⟩:=Zac h17
   let o2:List PS:=o1 ++ [.c false,.r [],.r [(2,q1 [.agg [L.arr .u64 4 x2]])],.r []]
   refine iteB h18 (fun c4 h19=>?_) (fun c4 h20=>?_)
   ·obtain ⟨x3,c5,h21⟩:=Zac h19
    exact aq fol (o2 ++ [.c true,.r [(4,q1 [.agg [L.arr .u64 4 x3]])],.s 1]) [0,2,5,6,7] [2,7] (t5 (aL c2 (leI 0 24) (Zcg.snd c3) c4 (ZaJ.snd c5))) (Zaw.p1_ok h21 hE)
   ·obtain ⟨x4,c6,h22⟩:=Zac h20
    exact aq fol (o2 ++ [.c false,.r [(4,q1 [.agg [L.arr .u64 4 x4]])],.s 1]) [0,2,5,6,7] [2,7] (t5 (aL c2 (leI 0 24) (Zcg.snd c3) c4 (Zba.snd c6))) (Zaw.p1_ok h22 hE)
noncomputable def ZbQ.B:Code:=Tryz.f117.body.getD .skip
noncomputable def ZbQ.rs (r:Bool):List CV:=[oB r]
noncomputable def ZbQ (N:Nat) (a_0_0:List Int):Option Bool:=
 some (a_0_0==(List.replicate 4 0))
theorem ZbQ.snd {a_0_0:List Int} {r:Bool} (h:ZbQ N a_0_0=some r):SndQ Tryz.prog 117 [.agg [L.arr .u64 4 a_0_0]] (ZbQ.rs r):=fun st=>
 sO ZbQ.B Tryz.func117 fun g0 w0 R hE=>by
  unfold ZbQ at h
  obtain rfl:=Zaa h
  exact af fol hE [.r [],.r []] [] 0 [] trivial
noncomputable def ZaP.B:Code:=Tryz.f95.body.getD .skip
noncomputable def ZaP.rs (r:Int):List CV:=[oI r]
noncomputable def ZaP.p1 (N:Nat) (a_0_0 b_1_0:List Int) (c1_:Int→Option Int):Int→Option Int:=fun i_1=>
 if (decide (i_1≥0))=true then
  chk (0≤i_1)<|
  chk (i_1<4)<|
  if (decide ((List.getD a_0_0 (Int.toNat i_1) 0)<(List.getD b_1_0 (Int.toNat i_1) 0)))=true then
   some (-1)
  else
  if (decide ((List.getD a_0_0 (Int.toNat i_1) 0)>(List.getD b_1_0 (Int.toNat i_1) 0)))=true then
   some 1
  else
  c1_ (w64 (i_1-1))
 else
 some 0
noncomputable def ZaP (N:Nat) (a_0_0 b_1_0:List Int):Option Int:=
 loopN (ZaP.p1 N a_0_0 b_1_0) N 3
noncomputable def ZaP.p1.S (i_1:Int) (a_0_0 b_1_0:List Int) (st:LL):S:=mkS 26 [(2,sA 2),(3,sA 3),(5,sI i_1)] [(2,.cells [L.arr .u64 4 a_0_0]),(3,.cells [L.arr .u64 4 b_1_0])] st
theorem ZaP.p1_ok {i_1 a_0_0 b_1_0 st r c1_ J1} (h:ZaP.p1 N a_0_0 b_1_0 c1_ i_1=some r) (hE:En Tryz.f95 g0 w0 (ZaP.rs r) st R) (hc1 : ∀i_1,c1_ i_1=some r→At g0 w0 (ZaP.p1.S i_1 a_0_0 b_1_0 st) J1):At g0 w0 (ZaP.p1.S i_1 a_0_0 b_1_0 st) (XK Tryz.prog R (.c (csub ZaP.B [1,0,1,0,0]) :: .h J1 :: [.b 0,.c (csub ZaP.B [1,1])])):=by
 unfold ZaP.p1 at h
 refine iteB h (fun c1 h1=>?_) (fun c1 h2=>?_)
 ·obtain ⟨c2,c3,h3⟩:=ck2 h1
  let o1:List PS:=[.r [],.c true,.d {ds:=[],hv:=0,Hs:=[]}]
  refine iteB h3 (fun c4 h4=>?_) (fun c4 h5=>?_)
  ·obtain rfl:=Zaa h4
   exact afd fol hE (o1 ++ [.c true,.r []]) [] 0 [] (aM c1 c2 c3 c2 c3 c4)
  ·let o2:List PS:=o1 ++ [.c false,.d {ds:=[],hv:=0,Hs:=[]}]
   refine iteB h5 (fun c5 h6=>?_) (fun c5 h7=>?_)
   ·obtain rfl:=Zaa h6
    exact afd fol hE (o2 ++ [.c true,.r []]) [] 0 [] (aO c1 c2 c3 c2 c3 c4 c2 (aK c3 c2 c3 c5))
   ·exact and_ fol (o2 ++ [.c false,.r []]) [2,3,5] [2,3] (aO c1 c2 c3 c2 c3 c4 c2 (aK c3 c2 c3 c5)) (hc1 (w64 (i_1-1)) h7)
 ·obtain rfl:=Zaa h2
  exact af fol hE [.r [],.c false,.r []] [] 0 [] c1
theorem ZaP.snd {a_0_0 b_1_0:List Int} {r:Int} (h:ZaP N a_0_0 b_1_0=some r):SndQ Tryz.prog 95 [.agg [L.arr .u64 4 a_0_0],.agg [L.arr .u64 4 b_1_0]] (ZaP.rs r):=fun st=>
 sO ZaP.B Tryz.func95 fun g0 w0 R hE=>by
  unfold ZaP at h
  exact aq fol [.r [],.r []] [2,3,5] [2,3] trivial (At.loop N (At.loopN (fun y:Int=>ZaP.p1.S y a_0_0 b_1_0 st) (fun c J hc y h=>ZaP.p1_ok h hE (fun i_1=>hc i_1)) N 3 h))
noncomputable def ZbU.B:Code:=Tryz.f202.body.getD .skip
noncomputable def ZbU.rs (r:Bool):List CV:=[oB r]
noncomputable def ZbU (N:Nat) (a_0_0 b_1_0:List Int):Option Bool:=
 optE (ZaP N a_0_0 b_1_0) fun x1=>
 some (decide (x1<0))
theorem ZbU.snd {a_0_0 b_1_0:List Int} {r:Bool} (h:ZbU N a_0_0 b_1_0=some r):SndQ Tryz.prog 202 [.agg [L.arr .u64 4 a_0_0],.agg [L.arr .u64 4 b_1_0]] (ZbU.rs r):=fun st=>
 sO ZbU.B Tryz.func202 fun g0 w0 R hE=>by
  unfold ZbU at h
  obtain ⟨x1,c1,h1⟩:=Zac h
  obtain rfl:=Zaa h1
  exact af fol hE [.r [],.r [(2,q1 [oI x1])]] [] 0 [] (ZaP.snd c1)
noncomputable def Zby.B:Code:=Tryz.f185.body.getD .skip
noncomputable def Zby.rs (r:(List Int)×Bool):List CV:=[.agg [L.arr .u64 4 r.1],oB r.2]
noncomputable def Zby (N:Nat) (bits_0 limit_1:Int):Option ((List Int)×Bool):=
 optE (Zaw N bits_0) fun (x1,x2,x3)=>
 optE (Zaw N limit_1) fun (x4,x5,x6)=>
 if x2=true then
  some (List.replicate 4 0,false)
 else
 if x3=true then
  some (List.replicate 4 0,false)
 else
 if x5=true then
  some (List.replicate 4 0,false)
 else
 if x6=true then
  some (List.replicate 4 0,false)
 else
 optE (ZbQ N x1) fun x7=>
 if x7=true then
  some (List.replicate 4 0,false)
 else
 optE (ZbU N x4 x1) fun x8=>
 if x8=true then
  some (List.replicate 4 0,false)
 else
 some (x1,true)
theorem Zby.snd {bits_0 limit_1:Int} {r:(List Int)×Bool} (h:Zby N bits_0 limit_1=some r):SndQ Tryz.prog 185 [oI bits_0,oI limit_1] (Zby.rs r):=fun st=>
 sO Zby.B Tryz.func185 fun g0 w0 R hE=>by
  unfold Zby at h
  obtain ⟨⟨x1,x2,x3⟩,c1,h1⟩:=Zac h
  obtain ⟨⟨x4,x5,x6⟩,c2,h2⟩:=Zac h1
  let o1:List PS:=[.r [],.r [(1,q1 [.agg [L.arr .u64 4 x1],oB x2,oB x3])],.r [(1,q1 [.agg [L.arr .u64 4 x4],oB x5,oB x6])]]
  have t1 {Q:Prop} (q:Q):=aJ (Zaw.snd c1) (Zaw.snd c2) q
  refine iteB h2 (fun c3 h3=>?_) (fun c3 h4=>?_)
  ·obtain rfl:=Zaa h3
   exact af fol hE (o1 ++ [.r [(2,wF),(5,wF),(8,wF),(11,wF),(12,wF),(15,wF),(16,wF),(17,wF)],.c true,.r []]) [] 0 [] (t1 (aO c3 c3 eT eT eT eT eT (aN eT eT eT eT eT eT eT)))
  ·refine iteB h4 (fun c4 h5=>?_) (fun c4 h6=>?_)
   ·obtain rfl:=Zaa h5
    exact af fol hE (o1 ++ [.r [(3,yF),(5,wF),(8,wF),(11,wF),(12,wF),(15,wF),(16,wF),(17,wF)],.c true,.r []]) [] 0 [] (t1 (aO c3 c3 c4 c4 eT eT eT (aN eT eT eT eT eT eT eT)))
   ·have t2 {Q:Prop} (q:Q):=t1 (aL c3 c3 c4 c4 q)
    refine iteB h6 (fun c5 h7=>?_) (fun c5 h8=>?_)
    ·obtain rfl:=Zaa h7
     exact af fol hE (o1 ++ [.r [(3,yF),(6,yF),(8,wF),(11,wF),(12,wF),(15,wF),(16,wF),(17,wF)],.c true,.r []]) [] 0 [] (t2 (aO c5 c5 eT eT eT eT eT (aJ eT eT eT)))
    ·refine iteB h8 (fun c6 h9=>?_) (fun c6 h10=>?_)
     ·obtain rfl:=Zaa h9
      exact af fol hE (o1 ++ [.r [(3,yF),(6,yF),(9,yF),(11,wF),(12,wF),(15,wF),(16,wF),(17,wF)],.c true,.r []]) [] 0 [] (t2 (aO c5 c5 c6 c6 c6 eT eT (aJ eT eT eT)))
     ·obtain ⟨x7,c7,h11⟩:=Zac h10
      have t3 {Q:Prop} (q:Q):=t2 (aN c5 c5 c6 c6 (ZbQ.snd c7) c6 q)
      refine iteB h11 (fun c8 h12=>?_) (fun c8 h13=>?_)
      ·obtain rfl:=Zaa h12
       exact af fol hE (o1 ++ [.r [(3,yF),(6,yF),(9,yF),(12,q1 [oB x7]),(13,yF),(15,wF),(16,wF),(17,wF)],.c true,.r []]) [] 0 [] (t3 (aL c8 c8 c8 c8 eT))
      ·obtain ⟨x8,c9,h14⟩:=Zac h13
       let o2:List PS:=o1 ++ [.r [(3,yF),(6,yF),(9,yF),(12,q1 [oB x7]),(13,yF),(17,q1 [oB x8]),(18,yF)]]
       refine iteB h14 (fun c10 h15=>?_) (fun c10 h16=>?_)
       ·obtain rfl:=Zaa h15
        exact af fol hE (o2 ++ [.c true,.r []]) [] 0 [] (t3 (aM c8 c8 c8 (ZbU.snd c9) c8 c10))
       ·obtain rfl:=Zaa h16
        exact af fol hE (o2 ++ [.c false,.r []]) [] 0 [] (t3 (aM c8 c8 c8 (ZbU.snd c9) c8 c10))
noncomputable def ZcR.B:Code:=Tryz.f145.body.getD .skip
noncomputable def ZcR.rs (r:Bool):List CV:=[oB r]
noncomputable def ZcR (N:Nat) (p_0:Zag):Option Bool:=
 optE (Zby N p_0.Limit p_0.Limit) fun (x1,x2)=>
 if x2=true then
  if (decide (p_0.Interval≥2))=true then
   if (decide (p_0.Interval≤64))=true then
    if (decide (p_0.Spacing≥1))=true then
     if (decide (p_0.Spacing≤10000))=true then
      if (decide (p_0.Future≥0))=true then
       some (decide (p_0.Future<4294967296))
      else
      some false
     else
     some false
    else
    some false
   else
   some false
  else
  some false
 else
 some false
theorem ZcR.snd {p_0:Zag} {r:Bool} (h:ZcR N p_0=some r):SndQ Tryz.prog 145 [.agg p_0.ls] (ZcR.rs r):=fun st=>
 sO ZcR.B Tryz.func145 fun g0 w0 R hE=>by
  unfold ZcR at h
  obtain ⟨⟨x1,x2⟩,c1,h1⟩:=Zac h
  let o1:List PS:=[.r [],.r [(4,q1 [.agg [L.arr .u64 4 x1],oB x2])]]
  have t1 {Q:Prop} (q:Q):=aI (Zby.snd c1) q
  refine iteB h1 (fun c2 h2=>?_) (fun c2 h3=>?_)
  ·have t2 {Q:Prop} (q:Q):=t1 (aL c2 c2 c2 c2 q)
   refine iteB h2 (fun c3 h4=>?_) (fun c3 h5=>?_)
   ·have t3 {Q:Prop} (q:Q):=t2 (aL c3 c3 c3 c3 q)
    refine iteB h4 (fun c4 h6=>?_) (fun c4 h7=>?_)
    ·have t4 {Q:Prop} (q:Q):=t3 (aL c4 c4 c4 c4 q)
     refine iteB h6 (fun c5 h8=>?_) (fun c5 h9=>?_)
     ·refine iteB h8 (fun c6 h10=>?_) (fun c6 h11=>?_)
      ·refine iteB h10 (fun c7 h12=>?_) (fun c7 h13=>?_)
       ·obtain rfl:=Zaa h12
        exact af fol hE (o1 ++ [.r []]) [] 0 [] (t4 (aO c5 c5 c5 c5 c6 c6 c6 (aL c6 c7 c7 c7 c7)))
       ·obtain rfl:=Zaa h13
        exact af fol hE (o1 ++ [.r [(27,wF),(28,wF),(29,wF),(30,yF)]]) [] 0 [] (t4 (aO c5 c5 c5 c5 c6 c6 c6 (aL c6 c7 c7 c7 c7)))
      ·obtain rfl:=Zaa h11
       exact af fol hE (o1 ++ [.r [(22,wF),(23,wF),(24,wF),(25,yF),(27,wF),(28,wF),(29,wF),(30,yF)]]) [] 0 [] (t4 (aO c5 c5 c5 c5 c6 c6 c6 (aL c6 eF eF eF eF)))
     ·obtain rfl:=Zaa h9
      exact af fol hE (o1 ++ [.r [(17,wF),(18,wF),(19,wF),(20,yF),(22,wF),(23,wF),(24,wF),(25,yF),(27,wF),(28,wF),(29,wF),(30,yF)]]) [] 0 [] (t4 (aO c5 c5 c5 c5 eF eF eF (aL eF eF eF eF eF)))
    ·obtain rfl:=Zaa h7
     exact af fol hE (o1 ++ [.r [(12,wF),(13,wF),(14,wF),(15,yF),(17,wF),(18,wF),(19,wF),(20,yF),(22,wF),(23,wF),(24,wF),(25,yF),(27,wF),(28,wF),(29,wF),(30,yF)]]) [] 0 [] (t3 (aO c4 c4 c4 c4 eF eF eF (aO eF eF eF eF eF eF eF (aI eF eF))))
   ·obtain rfl:=Zaa h5
    exact af fol hE (o1 ++ [.r [(7,wF),(8,wF),(9,wF),(10,yF),(12,wF),(13,wF),(14,wF),(15,yF),(17,wF),(18,wF),(19,wF),(20,yF),(22,wF),(23,wF),(24,wF),(25,yF),(27,wF),(28,wF),(29,wF),(30,yF)]]) [] 0 [] (t2 (aO c3 c3 c3 c3 eF eF eF (aO eF eF eF eF eF eF eF (aM eF eF eF eF eF eF))))
  ·obtain rfl:=Zaa h3
   exact af fol hE (o1 ++ [.r [(2,wF),(3,wF),(4,wF),(5,yF),(7,wF),(8,wF),(9,wF),(10,yF),(12,wF),(13,wF),(14,wF),(15,yF),(17,wF),(18,wF),(19,wF),(20,yF),(22,wF),(23,wF),(24,wF),(25,yF),(27,wF),(28,wF),(29,wF),(30,yF)]]) [] 0 [] (t1 (aO c2 c2 c2 c2 eF eF eF (aO eF eF eF eF eF eF eF (aO eF eF eF eF eF eF eF (aJ eF eF eF)))))
noncomputable def Zbb.B:Code:=Tryz.f87.body.getD .skip
noncomputable def Zbb.rs (r:Bool):List CV:=[oB r]
noncomputable def Zbb.p2 (N:Nat) (p_0:Zag) (c2_:Int→Option Bool):Int→Option Bool:=fun v6=>
 if (decide (v6<(len p_0.Checks)))=true then
  chk (0≤v6)<|
  getE (p_0.Checks[Int.toNat v6]?) ZcW fun x7=>
  if (decide (x7.Height<1))=true then
   some false
  else
  if (decide (v6>0))=true then
   chk (0≤(w64 (v6-1)))<|
   chk ((w64 (v6-1))<(len p_0.Checks))<|
   getE (p_0.Checks[Int.toNat (w64 (v6-1))]?) ZcW fun x8=>
   if (decide (x7.Height≤x8.Height))=true then
    some false
   else
   c2_ (w64 (v6+1))
  else
  c2_ (w64 (v6+1))
 else
 some true
noncomputable def Zbb.p1 (N:Nat) (p_0:Zag) (c1_:Int→Option Bool):Int→Option Bool:=fun v3=>
 if (decide (v3<(len p_0.Gates)))=true then
  chk (0≤v3)<|
  getE (p_0.Gates[Int.toNat v3]?) Zdi fun x4=>
  if (decide (x4.Height<0))=true then
   some false
  else
  if (decide (v3>0))=true then
   chk (0≤(w64 (v3-1)))<|
   chk ((w64 (v3-1))<(len p_0.Gates))<|
   getE (p_0.Gates[Int.toNat (w64 (v3-1))]?) Zdi fun x5=>
   if (decide (x4.Height≤x5.Height))=true then
    some false
   else
   c1_ (w64 (v3+1))
  else
  c1_ (w64 (v3+1))
 else
 loopN (Zbb.p2 N p_0) N 0
noncomputable def Zbb (N:Nat) (p_0:Zag):Option Bool:=
 optE (ZcR N p_0) fun x1=>
 if (!x1)=true then
  some false
 else
 optE (ZbC N p_0.Genesis) fun x2=>
 if (!x2)=true then
  some false
 else
 loopN (Zbb.p1 N p_0) N 0
noncomputable def Zbb.p2.S (p_0:Zag) (v6:Int) (st:LL):S:=mkS 72 [(1,sA 1),(45,sV 33 p_0.Checks),(46,sI (len p_0.Checks)),(47,sI v6)] [(1,.cells p_0.ls)] st
noncomputable def Zbb.p1.S (p_0:Zag) (v3:Int) (st:LL):S:=mkS 72 [(1,sA 1),(17,sV 2 p_0.Gates),(18,sI (len p_0.Gates)),(19,sI v3)] [(1,.cells p_0.ls)] st
theorem Zbb.p2_ok {p_0 v6 st r c2_ J2} (h:Zbb.p2 N p_0 c2_ v6=some r) (hE:En Tryz.f87 g0 w0 (Zbb.rs r) st R) (hc2 : ∀v6,c2_ v6=some r→At g0 w0 (Zbb.p2.S p_0 v6 st) J2):At g0 w0 (Zbb.p2.S p_0 v6 st) (XK Tryz.prog R (.c (csub Zbb.B [1,1,1,0,1,0,0]) :: .h J2 :: [.b 2,.c (csub Zbb.B [1,1,1,1])])):=by
 unfold Zbb.p2 at h
 refine iteB h (fun c14 h1=>?_) (fun c14 h2=>?_)
 ·obtain ⟨c15,h3⟩:=ZaU h1
  obtain ⟨x7,c16,h4⟩:=Zdo h3
  let o1:List PS:=[.r [],.c true,.r [(2,{oe:=x7.ls})]]
  have t1 {Q:Prop} (q:Q):=aL c14 c15 (oD c14) c16 q
  refine iteB h4 (fun c17 h5=>?_) (fun c17 h6=>?_)
  ·obtain rfl:=Zaa h5
   exact afd fol hE (o1 ++ [.d {ds:=[(4,wF),(5,wF),(6,wF),(17,wF)],hv:=0,Hs:=[]},.c true,.r []]) [] 0 [] (t1 (aM c17 c17 c17 c17 c17 eT))
  ·refine iteB h6 (fun c18 h7=>?_) (fun c18 h8=>?_)
   ·obtain ⟨c19,c20,h9⟩:=ck2 h7
    obtain ⟨x8,c21,h10⟩:=Zdo h9
    let o2:List PS:=o1 ++ [.d {ds:=[(15,{oe:=x8.ls}),(18,yF)],hv:=0,Hs:=[]}]
    have t2 {Q:Prop} (q:Q):=t1 (aO c17 c17 c17 c18 c18 c18 c18 (aO c18 c18 c18 c19 c20 c18 c18 (aM c21 c18 c17 c18 c17 q)))
    refine iteB h10 (fun c22 h11=>?_) (fun c22 h12=>?_)
    ·obtain rfl:=Zaa h11
     exact afd fol hE (o2 ++ [.c true,.r []]) [] 0 [] (t2 c22)
    ·exact and_ fol (o2 ++ [.c false,.r []]) [1,45,46,47] [1] (t2 c22) (hc2 (w64 (v6+1)) h12)
   ·exact and_ fol (o1 ++ [.d {ds:=[(7,wF),(8,wF),(9,wF),(10,wF),(11,wF),(12,wF),(13,wF),(14,wF),(15,wF),(16,wF),(17,yF),(18,yF)],hv:=0,Hs:=[]},.c false,.r []]) [1,45,46,47] [1] (t1 (aO c17 c17 c17 c18 c18 c18 c18 (aO c18 c18 c18 c18 c18 c18 c17 (aJ c18 c17 eF)))) (hc2 (w64 (v6+1)) h8)
 ·obtain rfl:=Zaa h2
  exact af fol hE [.r [],.c false,.r []] [] 0 [] c14
theorem Zbb.p1_ok {p_0 v3 st r c1_ J1} (h:Zbb.p1 N p_0 c1_ v3=some r) (hE:En Tryz.f87 g0 w0 (Zbb.rs r) st R) (hc1 : ∀v3,c1_ v3=some r→At g0 w0 (Zbb.p1.S p_0 v3 st) J1):At g0 w0 (Zbb.p1.S p_0 v3 st) (XK Tryz.prog R (.c (csub Zbb.B [1,1,0,1,0,0]) :: .h J1 :: [.b 0,.c (csub Zbb.B [1,1,1])])):=by
 unfold Zbb.p1 at h
 refine iteB h (fun c5 h13=>?_) (fun c5 h14=>?_)
 ·obtain ⟨c6,h15⟩:=ZaU h13
  obtain ⟨x4,c7,h16⟩:=Zdt h15
  let o3:List PS:=[.r [],.c true,.r [(2,{oe:=x4.ls})]]
  have t3 {Q:Prop} (q:Q):=aL c5 c6 (oD c5) c7 q
  refine iteB h16 (fun c8 h17=>?_) (fun c8 h18=>?_)
  ·obtain rfl:=Zaa h17
   exact afd fol hE (o3 ++ [.d {ds:=[(4,wF),(5,wF),(6,wF),(17,wF)],hv:=0,Hs:=[]},.c true,.r []]) [] 0 [] (t3 (aM c8 c8 c8 c8 c8 eT))
  ·refine iteB h18 (fun c9 h19=>?_) (fun c9 h20=>?_)
   ·obtain ⟨c10,c11,h21⟩:=ck2 h19
    obtain ⟨x5,c12,h22⟩:=Zdt h21
    let o4:List PS:=o3 ++ [.d {ds:=[(15,{oe:=x5.ls}),(18,yF)],hv:=0,Hs:=[]}]
    have t4 {Q:Prop} (q:Q):=t3 (aO c8 c8 c8 c9 c9 c9 c9 (aO c9 c9 c9 c10 c11 c9 c9 (aM c12 c9 c8 c9 c8 q)))
    refine iteB h22 (fun c13 h23=>?_) (fun c13 h24=>?_)
    ·obtain rfl:=Zaa h23
     exact afd fol hE (o4 ++ [.c true,.r []]) [] 0 [] (t4 c13)
    ·exact and_ fol (o4 ++ [.c false,.r []]) [1,17,18,19] [1] (t4 c13) (hc1 (w64 (v3+1)) h24)
   ·exact and_ fol (o3 ++ [.d {ds:=[(7,wF),(8,wF),(9,wF),(10,wF),(11,wF),(12,wF),(13,wF),(14,wF),(15,wF),(16,wF),(17,yF),(18,yF)],hv:=0,Hs:=[]},.c false,.r []]) [1,17,18,19] [1] (t3 (aO c8 c8 c8 c9 c9 c9 c9 (aO c9 c9 c9 c9 c9 c9 c8 (aJ c9 c8 eF)))) (hc1 (w64 (v3+1)) h20)
 ·exact aq fol [.r [],.c false,.r []] [1,45,46,47] [1] c5 (At.loop N (At.loopN (fun y:Int=>Zbb.p2.S p_0 y st) (fun c J hc y h=>Zbb.p2_ok h hE (fun v6=>hc v6)) N 0 h14))
theorem Zbb.snd {p_0:Zag} {r:Bool} (h:Zbb N p_0=some r):SndQ Tryz.prog 87 [.agg p_0.ls] (Zbb.rs r):=fun st=>
 sO Zbb.B Tryz.func87 fun g0 w0 R hE=>by
  unfold Zbb at h
  obtain ⟨x1,c1,h25⟩:=Zac h
  have t5 {Q:Prop} (q:Q):=aI (ZcR.snd c1) q
  refine iteB h25 (fun c2 h26=>?_) (fun c2 h27=>?_)
  ·obtain rfl:=Zaa h26
   exact af fol hE [.r [],.r [(1,q1 [oB x1]),(4,wF),(5,wF),(6,wF),(7,wF)],.c true,.r []] [] 0 [] (t5 (aM (not_false (ZbO c2)) (not_false (ZbO c2)) (not_false (ZbO c2)) (not_false (ZbO c2)) (not_false (ZbO c2)) eT))
  ·obtain ⟨x2,c3,h28⟩:=Zac h27
   let o5:List PS:=[.r [],.r [(1,q1 [oB x1]),(6,q1 [oB x2]),(8,yF)]]
   have t6 {Q:Prop} (q:Q):=t5 (aN (not_true (ZbP c2)) (not_true (ZbP c2)) (not_true (ZbP c2)) (ZbC.snd c3) (not_true (ZbP c2)) (not_true (ZbP c2)) q)
   refine iteB h28 (fun c4 h29=>?_) (fun c4 h30=>?_)
   ·obtain rfl:=Zaa h29
    exact af fol hE (o5 ++ [.c true,.r []]) [] 0 [] (t6 c4)
   ·exact aq fol (o5 ++ [.c false,.r []]) [1,17,18,19] [1] (t6 c4) (At.loop N (At.loopN (fun y:Int=>Zbb.p1.S p_0 y st) (fun c J hc y h=>Zbb.p1_ok h hE (fun v3=>hc v3)) N 0 h30))
noncomputable def Zbg.B:Code:=Tryz.f174.body.getD .skip
noncomputable def Zbg.rs (r:(List Int)×Bool):List CV:=[.agg [L.arr .u64 4 r.1],oB r.2]
noncomputable def Zbg.p1 (N:Nat) (b_1_0:List Int) (c1_:(Int×Int×(List Int))→Option ((List Int)×Bool)):(Int×Int×(List Int))→Option ((List Int)×Bool):=fun (c_1,v2,a_5)=>
 if (decide (v2<4))=true then
  chk (0≤v2)<|
  optE (ZcD N (List.getD a_5 (Int.toNat v2) 0) (List.getD b_1_0 (Int.toNat v2) 0) c_1) fun (x6,x7)=>
  c1_ (x7,w64 (v2+1),List.set a_5 (Int.toNat v2) x6)
 else
 some (a_5,c_1 != 0)
noncomputable def Zbg (N:Nat) (a_0_0 b_1_0:List Int):Option ((List Int)×Bool):=
 loopN (Zbg.p1 N b_1_0) N (0,0,a_0_0)
noncomputable def Zbg.p1.S (c_1 v2:Int) (a_5 b_1_0:List Int) (st:LL):S:=mkS 28 [(2,sA 2),(3,sA 3),(4,sA 4),(6,.one (.l (L.int .u64 c_1))),(8,sI v2)] [(2,.cells [L.arr .u64 4 a_5]),(3,.cells [L.arr .u64 4 b_1_0]),(4,.cells [L.arr .u64 4 (List.replicate 4 0)])] st
theorem Zbg.p1_ok {c_1 v2 a_5 b_1_0 st r c1_ J1} (h:Zbg.p1 N b_1_0 c1_ (c_1,v2,a_5)=some r) (hE:En Tryz.f174 g0 w0 (Zbg.rs r) st R) (hc1 : ∀c_1 v2 a_5,c1_ (c_1,v2,a_5)=some r→At g0 w0 (Zbg.p1.S c_1 v2 a_5 b_1_0 st) J1):At g0 w0 (Zbg.p1.S c_1 v2 a_5 b_1_0 st) (XK Tryz.prog R (.c (csub Zbg.B [1,1,0,1,0,0]) :: .h J1 :: [.b 0,.c (csub Zbg.B [1,1,1])])):=by
 unfold Zbg.p1 at h
 refine iteB h (fun c4 h1=>?_) (fun c4 h2=>?_)
 ·obtain ⟨c5,h3⟩:=ZaU h1
  obtain ⟨⟨x6,x7⟩,c6,h4⟩:=Zac h3
  exact and_ fol [.r [],.c true,.r [],.d {ds:=[(8,{rs:=[.one (L.int .u64 x6),.one (L.int .u64 x7)],m:=4})],hv:=8192,Hs:=[8192]},.r []] [2,3,4,6,8] [2,3,4] (aO c4 c5 (oD c4) c5 (oD c4) (ZcD.snd c6) c5 (oD c4)) (hc1 x7 (w64 (v2+1)) (List.set a_5 (Int.toNat v2) x6) h4)
 ·obtain rfl:=Zaa h2
  exact af fol hE [.r [],.c false,.r []] [] 0 [] c4
theorem Zbg.snd {a_0_0 b_1_0:List Int} {r:(List Int)×Bool} (h:Zbg N a_0_0 b_1_0=some r):SndQ Tryz.prog 174 [.agg [L.arr .u64 4 a_0_0],.agg [L.arr .u64 4 b_1_0]] (Zbg.rs r):=fun st=>
 sO Zbg.B Tryz.func174 fun g0 w0 R hE=>by
  unfold Zbg at h
  exact aq fol [.r [],.r [],.r []] [2,3,4,6,8] [2,3,4] trivial (At.loop N (At.loopN (fun y:Int×Int×(List Int)=>Zbg.p1.S y.1 y.2.1 y.2.2 b_1_0 st) (fun c J hc y h=>Zbg.p1_ok (c_1:=y.1) (v2:=y.2.1) (a_5:=y.2.2) h hE (fun c_1 v2 a_5=>hc (c_1,v2,a_5))) N (0,0,a_0_0) h))
noncomputable def Zbv.B:Code:=Tryz.f175.body.getD .skip
noncomputable def Zbv.rs (r:(List Int)):List CV:=[.agg [L.arr .u64 4 r]]
noncomputable def Zbv.p1 (N:Nat) (c1_:(Int×(List Int))→Option (List Int)):(Int×(List Int))→Option (List Int):=fun (v1,a_2)=>
 if (decide (v1<4))=true then
  chk (0≤v1)<|
  c1_ (w64 (v1+1),List.set a_2 (Int.toNat v1) (bitsOf .xor .u64 (IntKind.max IntKind.u64) (List.getD a_2 (Int.toNat v1) 0)))
 else
 some a_2
noncomputable def Zbv (N:Nat) (a_0_0:List Int):Option (List Int):=
 loopN (Zbv.p1 N) N (0,a_0_0)
noncomputable def Zbv.p1.S (v1:Int) (a_2:List Int) (st:LL):S:=mkS 15 [(1,sA 1),(2,sA 2),(4,sI v1)] [(1,.cells [L.arr .u64 4 a_2]),(2,.cells [L.arr .u64 4 (List.replicate 4 0)])] st
theorem Zbv.p1_ok {v1 a_2 st r c1_ J1} (h:Zbv.p1 N c1_ (v1,a_2)=some r) (hE:En Tryz.f175 g0 w0 (Zbv.rs r) st R) (hc1 : ∀v1 a_2,c1_ (v1,a_2)=some r→At g0 w0 (Zbv.p1.S v1 a_2 st) J1):At g0 w0 (Zbv.p1.S v1 a_2 st) (XK Tryz.prog R (.c (csub Zbv.B [1,0,1,0,0]) :: .h J1 :: [.b 0,.c (csub Zbv.B [1,1])])):=by
 unfold Zbv.p1 at h
 refine iteB h (fun c3 h1=>?_) (fun c3 h2=>?_)
 ·obtain ⟨c4,h3⟩:=ZaU h1
  exact an fol [.r [],.c true,.r [],.r [],.r []] [1,2,4] [1,2] (aL c3 c4 (oD c3) c4 (oD c3)) (hc1 (w64 (v1+1)) (List.set a_2 (Int.toNat v1) (bitsOf .xor .u64 (IntKind.max IntKind.u64) (List.getD a_2 (Int.toNat v1) 0))) h3)
 ·obtain rfl:=Zaa h2
  exact af fol hE [.r [],.c false,.r []] [] 0 [] c3
theorem Zbv.snd {a_0_0:List Int} {r:(List Int)} (h:Zbv N a_0_0=some r):SndQ Tryz.prog 175 [.agg [L.arr .u64 4 a_0_0]] (Zbv.rs r):=fun st=>
 sO Zbv.B Tryz.func175 fun g0 w0 R hE=>by
  unfold Zbv at h
  exact aq fol [.r [],.r []] [1,2,4] [1,2] trivial (At.loop N (At.loopN (fun y:Int×(List Int)=>Zbv.p1.S y.1 y.2 st) (fun c J hc y h=>Zbv.p1_ok (v1:=y.1) (a_2:=y.2) h hE (fun v1 a_2=>hc (v1,a_2))) N (0,a_0_0) h))
noncomputable def Zap.B:Code:=Tryz.f222.body.getD .skip
noncomputable def Zap.rs (r:Int):List CV:=[oI r]
noncomputable def Zap.p3 (N:Nat) (x_5 n_6:Int):Option Int:=
 chk (0≤(v8 (x_5)))<|
 chk ((v8 (x_5))<((ByteArray.size (ByteArray.mk #[0,1,2,2,3,3,3,3,4,4,4,4,4,4,4,4,5,5,5,5,5,5,5,5,5,5,5,5,5,5,5,5,6,6,6,6,6,6,6,6,6,6,6,6,6,6,6,6,6,6,6,6,6,6,6,6,6,6,6,6,6,6,6,6,7,7,7,7,7,7,7,7,7,7,7,7,7,7,7,7,7,7,7,7,7,7,7,7,7,7,7,7,7,7,7,7,7,7,7,7,7,7,7,7,7,7,7,7,7,7,7,7,7,7,7,7,7,7,7,7,7,7,7,7,7,7,7,7,8,8,8,8,8,8,8,8,8,8,8,8,8,8,8,8,8,8,8,8,8,8,8,8,8,8,8,8,8,8,8,8,8,8,8,8,8,8,8,8,8,8,8,8,8,8,8,8,8,8,8,8,8,8,8,8,8,8,8,8,8,8,8,8,8,8,8,8,8,8,8,8,8,8,8,8,8,8,8,8,8,8,8,8,8,8,8,8,8,8,8,8,8,8,8,8,8,8,8,8,8,8,8,8,8,8,8,8,8,8,8,8,8,8,8,8,8,8,8,8,8,8,8,8,8,8,8,8]):Nat):Int))<|
 some (w64 (n_6+(w64 (((UInt8.toNat (List.getD (Array.toList (ByteArray.data (ByteArray.mk #[0,1,2,2,3,3,3,3,4,4,4,4,4,4,4,4,5,5,5,5,5,5,5,5,5,5,5,5,5,5,5,5,6,6,6,6,6,6,6,6,6,6,6,6,6,6,6,6,6,6,6,6,6,6,6,6,6,6,6,6,6,6,6,6,7,7,7,7,7,7,7,7,7,7,7,7,7,7,7,7,7,7,7,7,7,7,7,7,7,7,7,7,7,7,7,7,7,7,7,7,7,7,7,7,7,7,7,7,7,7,7,7,7,7,7,7,7,7,7,7,7,7,7,7,7,7,7,7,8,8,8,8,8,8,8,8,8,8,8,8,8,8,8,8,8,8,8,8,8,8,8,8,8,8,8,8,8,8,8,8,8,8,8,8,8,8,8,8,8,8,8,8,8,8,8,8,8,8,8,8,8,8,8,8,8,8,8,8,8,8,8,8,8,8,8,8,8,8,8,8,8,8,8,8,8,8,8,8,8,8,8,8,8,8,8,8,8,8,8,8,8,8,8,8,8,8,8,8,8,8,8,8,8,8,8,8,8,8,8,8,8,8,8,8,8,8,8,8,8,8,8,8,8,8,8,8]))) (Int.toNat (v8 (x_5))) 0):Nat):Int)))))
noncomputable def Zap.p2 (N:Nat) (x_3 n_4:Int):Option Int:=
 if (decide (x_3≥256))=true then
  Zap.p3 N (shrOf .u64 x_3 8) (w64 (n_4+8))
 else
 Zap.p3 N x_3 n_4
noncomputable def Zap.p1 (N:Nat) (x_1 n_2:Int):Option Int:=
 if (decide (x_1≥65536))=true then
  Zap.p2 N (shrOf .u64 x_1 16) (w64 (n_2+16))
 else
 Zap.p2 N x_1 n_2
noncomputable def Zap (N:Nat) (x_0:Int):Option Int:=
 if (decide (x_0≥4294967296))=true then
  Zap.p1 N (shrOf .u64 x_0 32) 32
 else
 Zap.p1 N x_0 0
noncomputable def Zap.p3.S (x_5 n_6:Int) (st:LL):S:=mkS 25 [(0,.one (.l (L.int .u64 x_5))),(2,sI n_6)] [] st
noncomputable def Zap.p2.S (x_3 n_4:Int) (st:LL):S:=mkS 25 [(0,.one (.l (L.int .u64 x_3))),(2,sI n_4)] [] st
noncomputable def Zap.p1.S (x_1 n_2:Int) (st:LL):S:=mkS 25 [(0,.one (.l (L.int .u64 x_1))),(2,sI n_2)] [] st
theorem Zap.p3_ok {x_5 n_6 st r} (h:Zap.p3 N x_5 n_6=some r) (hE:En Tryz.f222 g0 w0 (Zap.rs r) st R):At g0 w0 (Zap.p3.S x_5 n_6 st) (XK Tryz.prog R [.c (csub Zap.B [1,1,1,1])]):=by
 unfold Zap.p3 at h
 obtain ⟨c4,c5,h1⟩:=ck2 h
 obtain rfl:=Zaa h1
 exact af fol hE [.r []] [] 0 [] (aI c4 c5)
theorem Zap.p2_ok {x_3 n_4 st r} (h:Zap.p2 N x_3 n_4=some r) (hE:En Tryz.f222 g0 w0 (Zap.rs r) st R):At g0 w0 (Zap.p2.S x_3 n_4 st) (XK Tryz.prog R [.c (csub Zap.B [1,1,1])]):=by
 unfold Zap.p2 at h
 refine iteB h (fun c3 h2=>?_) (fun c3 h3=>?_)
 ·exact aq fol [.r [],.c true,.r [],.r [],.s 1] [0,2] [] (aI c3 (leI 0 8)) (Zap.p3_ok h2 hE)
 ·exact aq fol [.r [],.c false,.s 1] [0,2] [] c3 (Zap.p3_ok h3 hE)
theorem Zap.p1_ok {x_1 n_2 st r} (h:Zap.p1 N x_1 n_2=some r) (hE:En Tryz.f222 g0 w0 (Zap.rs r) st R):At g0 w0 (Zap.p1.S x_1 n_2 st) (XK Tryz.prog R [.c (csub Zap.B [1,1])]):=by
 unfold Zap.p1 at h
 refine iteB h (fun c2 h4=>?_) (fun c2 h5=>?_)
 ·exact aq fol [.r [],.c true,.r [],.r [],.s 1] [0,2] [] (aI c2 (leI 0 16)) (Zap.p2_ok h4 hE)
 ·exact aq fol [.r [],.c false,.s 1] [0,2] [] c2 (Zap.p2_ok h5 hE)
theorem Zap.snd {x_0:Int} {r:Int} (h:Zap N x_0=some r):SndQ Tryz.prog 222 [.one (L.int .u64 x_0)] (Zap.rs r):=fun st=>
 sO Zap.B Tryz.func222 fun g0 w0 R hE=>by
  unfold Zap at h
  refine iteB h (fun c1 h6=>?_) (fun c1 h7=>?_)
  ·exact aq fol [.r [],.r [],.c true,.r [],.r [],.s 1] [0,2] [] (aI c1 (leI 0 32)) (Zap.p1_ok h6 hE)
  ·exact aq fol [.r [],.r [],.c false,.s 1] [0,2] [] c1 (Zap.p1_ok h7 hE)
noncomputable def ZbB.B:Code:=Tryz.f206.body.getD .skip
noncomputable def ZbB.rs (r:Int):List CV:=[oI r]
noncomputable def ZbB.p1 (N:Nat) (a_0_0:List Int) (c1_:Int→Option Int):Int→Option Int:=fun i_1=>
 if (decide (i_1≥0))=true then
  chk (0≤i_1)<|
  chk (i_1<4)<|
  if ((List.getD a_0_0 (Int.toNat i_1) 0) != 0)=true then
   optE (Zap N (List.getD a_0_0 (Int.toNat i_1) 0)) fun x2=>
   some (w64 ((w64 (64*i_1))+x2))
  else
  c1_ (w64 (i_1-1))
 else
 some 0
noncomputable def ZbB (N:Nat) (a_0_0:List Int):Option Int:=
 loopN (ZbB.p1 N a_0_0) N 3
noncomputable def ZbB.p1.S (i_1:Int) (a_0_0:List Int) (st:LL):S:=mkS 19 [(1,sA 1),(3,sI i_1)] [(1,.cells [L.arr .u64 4 a_0_0])] st
theorem ZbB.p1_ok {i_1 a_0_0 st r c1_ J1} (h:ZbB.p1 N a_0_0 c1_ i_1=some r) (hE:En Tryz.f206 g0 w0 (ZbB.rs r) st R) (hc1 : ∀i_1,c1_ i_1=some r→At g0 w0 (ZbB.p1.S i_1 a_0_0 st) J1):At g0 w0 (ZbB.p1.S i_1 a_0_0 st) (XK Tryz.prog R (.c (csub ZbB.B [1,0,1,0,0]) :: .h J1 :: [.b 0,.c (csub ZbB.B [1,1])])):=by
 unfold ZbB.p1 at h
 refine iteB h (fun c1 h1=>?_) (fun c1 h2=>?_)
 ·obtain ⟨c2,c3,h3⟩:=ck2 h1
  refine iteB h3 (fun c4 h4=>?_) (fun c4 h5=>?_)
  ·obtain ⟨x2,c5,h6⟩:=Zac h4
   obtain rfl:=Zaa h6
   exact af fol hE [.r [],.c true,.r [],.c true,.r [(5,q1 [oI x2])]] [] 0 [] (aN c1 c2 c3 c4 c2 c3 (Zap.snd c5))
  ·exact an fol [.r [],.c true,.r [],.c false,.r []] [1,3] [1] (aK c1 c2 c3 c4) (hc1 (w64 (i_1-1)) h5)
 ·obtain rfl:=Zaa h2
  exact af fol hE [.r [],.c false,.r []] [] 0 [] c1
theorem ZbB.snd {a_0_0:List Int} {r:Int} (h:ZbB N a_0_0=some r):SndQ Tryz.prog 206 [.agg [L.arr .u64 4 a_0_0]] (ZbB.rs r):=fun st=>
 sO ZbB.B Tryz.func206 fun g0 w0 R hE=>by
  unfold ZbB at h
  exact aq fol [.r [],.r []] [1,3] [1] trivial (At.loop N (At.loopN (fun y:Int=>ZbB.p1.S y a_0_0 st) (fun c J hc y h=>ZbB.p1_ok h hE (fun i_1=>hc i_1)) N 3 h))
noncomputable def ZbE.B:Code:=Tryz.f207.body.getD .skip
noncomputable def ZbE.rs (r:(List Int)×Bool):List CV:=[.agg [L.arr .u64 4 r.1],oB r.2]
noncomputable def ZbE.p1 (N:Nat) (b_1_0:List Int) (c1_:(Int×Int×(List Int))→Option ((List Int)×Bool)):(Int×Int×(List Int))→Option ((List Int)×Bool):=fun (c_1,v2,a_5)=>
 if (decide (v2<4))=true then
  chk (0≤v2)<|
  optE (Zdq N (List.getD a_5 (Int.toNat v2) 0) (List.getD b_1_0 (Int.toNat v2) 0) c_1) fun (x6,x7)=>
  c1_ (x7,w64 (v2+1),List.set a_5 (Int.toNat v2) x6)
 else
 some (a_5,c_1 != 0)
noncomputable def ZbE (N:Nat) (a_0_0 b_1_0:List Int):Option ((List Int)×Bool):=
 loopN (ZbE.p1 N b_1_0) N (0,0,a_0_0)
noncomputable def ZbE.p1.S (c_1 v2:Int) (a_5 b_1_0:List Int) (st:LL):S:=mkS 28 [(2,sA 2),(3,sA 3),(4,sA 4),(6,.one (.l (L.int .u64 c_1))),(8,sI v2)] [(2,.cells [L.arr .u64 4 a_5]),(3,.cells [L.arr .u64 4 b_1_0]),(4,.cells [L.arr .u64 4 (List.replicate 4 0)])] st
theorem ZbE.p1_ok {c_1 v2 a_5 b_1_0 st r c1_ J1} (h:ZbE.p1 N b_1_0 c1_ (c_1,v2,a_5)=some r) (hE:En Tryz.f207 g0 w0 (ZbE.rs r) st R) (hc1 : ∀c_1 v2 a_5,c1_ (c_1,v2,a_5)=some r→At g0 w0 (ZbE.p1.S c_1 v2 a_5 b_1_0 st) J1):At g0 w0 (ZbE.p1.S c_1 v2 a_5 b_1_0 st) (XK Tryz.prog R (.c (csub ZbE.B [1,1,0,1,0,0]) :: .h J1 :: [.b 0,.c (csub ZbE.B [1,1,1])])):=by
 unfold ZbE.p1 at h
 refine iteB h (fun c4 h1=>?_) (fun c4 h2=>?_)
 ·obtain ⟨c5,h3⟩:=ZaU h1
  obtain ⟨⟨x6,x7⟩,c6,h4⟩:=Zac h3
  exact and_ fol [.r [],.c true,.r [],.d {ds:=[(8,{rs:=[.one (L.int .u64 x6),.one (L.int .u64 x7)],m:=4})],hv:=8192,Hs:=[8192]},.r []] [2,3,4,6,8] [2,3,4] (aO c4 c5 (oD c4) c5 (oD c4) (Zdq.snd c6) c5 (oD c4)) (hc1 x7 (w64 (v2+1)) (List.set a_5 (Int.toNat v2) x6) h4)
 ·obtain rfl:=Zaa h2
  exact af fol hE [.r [],.c false,.r []] [] 0 [] c4
theorem ZbE.snd {a_0_0 b_1_0:List Int} {r:(List Int)×Bool} (h:ZbE N a_0_0 b_1_0=some r):SndQ Tryz.prog 207 [.agg [L.arr .u64 4 a_0_0],.agg [L.arr .u64 4 b_1_0]] (ZbE.rs r):=fun st=>
 sO ZbE.B Tryz.func207 fun g0 w0 R hE=>by
  unfold ZbE at h
  exact aq fol [.r [],.r [],.r []] [2,3,4,6,8] [2,3,4] trivial (At.loop N (At.loopN (fun y:Int×Int×(List Int)=>ZbE.p1.S y.1 y.2.1 y.2.2 b_1_0 st) (fun c J hc y h=>ZbE.p1_ok (c_1:=y.1) (v2:=y.2.1) (a_5:=y.2.2) h hE (fun c_1 v2 a_5=>hc (c_1,v2,a_5))) N (0,0,a_0_0) h))
noncomputable def ZaV.B:Code:=Tryz.f179.body.getD .skip
noncomputable def ZaV.rs (r:(List Int)×(List Int)):List CV:=[.agg [L.arr .u64 4 r.1],.agg [L.arr .u64 4 r.2]]
noncomputable def ZaV.p2 (N:Nat) (c1_:(Int×(List Int)×(List Int))→Option ((List Int)×(List Int))) (i_3:Int) (a_0_0 by_1_0 out_21 rest_20:List Int):Option ((List Int)×(List Int)):=
 c1_ (w64 (i_3-1),out_21,rest_20)
noncomputable def ZaV.p1 (N:Nat) (a_0_0 by_1_0:List Int) (c1_:(Int×(List Int)×(List Int))→Option ((List Int)×(List Int))):(Int×(List Int)×(List Int))→Option ((List Int)×(List Int)):=fun (i_3,out_12,rest_13)=>
 if (decide (i_3≥0))=true then
  optE (Zba N rest_13 1) fun x14=>
  chk (0≤(w64 (Int.tdiv i_3 64)))<|
  chk ((w64 (Int.tdiv i_3 64))<4)<|
  chk (0≤(Int.tmod i_3 64))<|
  if ((shrOf .u64 (List.getD rest_13 3 0) 63)==1)=true then
   optE (ZbE N (List.set x14 0 (bitsOf .or .u64 (List.getD x14 0 0) (bitsOf .and .u64 (shrOf .u64 (List.getD a_0_0 (Int.toNat (w64 (Int.tdiv i_3 64))) 0) (Int.tmod i_3 64)) 1))) by_1_0) fun (x15,x16)=>
   ZaV.p2 N c1_ i_3 a_0_0 by_1_0 (List.set out_12 (Int.toNat (w64 (Int.tdiv i_3 64))) (bitsOf .or .u64 (List.getD out_12 (Int.toNat (w64 (Int.tdiv i_3 64))) 0) (shlOf .u64 1 (Int.tmod i_3 64)))) x15
  else
  optE (ZbU N (List.set x14 0 (bitsOf .or .u64 (List.getD x14 0 0) (bitsOf .and .u64 (shrOf .u64 (List.getD a_0_0 (Int.toNat (w64 (Int.tdiv i_3 64))) 0) (Int.tmod i_3 64)) 1))) by_1_0) fun x17=>
  if (!x17)=true then
   optE (ZbE N (List.set x14 0 (bitsOf .or .u64 (List.getD x14 0 0) (bitsOf .and .u64 (shrOf .u64 (List.getD a_0_0 (Int.toNat (w64 (Int.tdiv i_3 64))) 0) (Int.tmod i_3 64)) 1))) by_1_0) fun (x18,x19)=>
   ZaV.p2 N c1_ i_3 a_0_0 by_1_0 (List.set out_12 (Int.toNat (w64 (Int.tdiv i_3 64))) (bitsOf .or .u64 (List.getD out_12 (Int.toNat (w64 (Int.tdiv i_3 64))) 0) (shlOf .u64 1 (Int.tmod i_3 64)))) x18
  else
  ZaV.p2 N c1_ i_3 a_0_0 by_1_0 out_12 (List.set x14 0 (bitsOf .or .u64 (List.getD x14 0 0) (bitsOf .and .u64 (shrOf .u64 (List.getD a_0_0 (Int.toNat (w64 (Int.tdiv i_3 64))) 0) (Int.tmod i_3 64)) 1)))
 else
 some (out_12,rest_13)
noncomputable def ZaV (N:Nat) (a_0_0 by_1_0:List Int):Option ((List Int)×(List Int)):=
 optE (ZbQ N by_1_0) fun x1=>
 if x1=true then
  some (List.replicate 4 0,List.replicate 4 0)
 else
 optE (ZbB N a_0_0) fun x2=>
 loopN (ZaV.p1 N a_0_0 by_1_0) N (w64 (x2-1),List.replicate 4 0,List.replicate 4 0)
noncomputable def ZaV.p2.S (i_3:Int) (a_0_0 by_1_0 out_21 rest_20:List Int) (st:LL):S:=mkS 63 [(2,sA 2),(3,sA 3),(4,sA 4),(5,sA 5),(6,sA 6),(7,sA 7),(8,sI i_3)] [(2,.cells [L.arr .u64 4 a_0_0]),(3,.cells [L.arr .u64 4 by_1_0]),(4,.cells [L.arr .u64 4 (List.replicate 4 0)]),(5,.cells [L.arr .u64 4 (List.replicate 4 0)]),(6,.cells [L.arr .u64 4 out_21]),(7,.cells [L.arr .u64 4 rest_20])] st
noncomputable def ZaV.p1.S (i_3:Int) (a_0_0 by_1_0 out_12 rest_13:List Int) (st:LL):S:=mkS 63 [(2,sA 2),(3,sA 3),(4,sA 4),(5,sA 5),(6,sA 6),(7,sA 7),(8,sI i_3)] [(2,.cells [L.arr .u64 4 a_0_0]),(3,.cells [L.arr .u64 4 by_1_0]),(4,.cells [L.arr .u64 4 (List.replicate 4 0)]),(5,.cells [L.arr .u64 4 (List.replicate 4 0)]),(6,.cells [L.arr .u64 4 out_12]),(7,.cells [L.arr .u64 4 rest_13])] st
theorem ZaV.p2_ok {i_3 a_0_0 by_1_0 out_21 rest_20 st r c1_ J1} (h:ZaV.p2 N c1_ i_3 a_0_0 by_1_0 out_21 rest_20=some r) (hE:En Tryz.f179 g0 w0 (ZaV.rs r) st R) (hc1 : ∀i_3 out_12 rest_13,c1_ (i_3,out_12,rest_13)=some r→At g0 w0 (ZaV.p1.S i_3 a_0_0 by_1_0 out_12 rest_13 st) J1):At g0 w0 (ZaV.p2.S i_3 a_0_0 by_1_0 out_21 rest_20 st) (XK Tryz.prog R [.c (csub ZaV.B [1,1,1,0,1,0,0,1,1]),.h J1,.b 0,.c (csub ZaV.B [1,1,1,1])]):=by
 unfold ZaV.p2 at h
 exact an fol [.r []] [2,3,4,5,6,7,8] [2,3,4,5,6,7] trivial (hc1 (w64 (i_3-1)) out_21 rest_20 h)
theorem ZaV.p1_ok {i_3 a_0_0 by_1_0 out_12 rest_13 st r c1_ J1} (h:ZaV.p1 N a_0_0 by_1_0 c1_ (i_3,out_12,rest_13)=some r) (hE:En Tryz.f179 g0 w0 (ZaV.rs r) st R) (hc1 : ∀i_3 out_12 rest_13,c1_ (i_3,out_12,rest_13)=some r→At g0 w0 (ZaV.p1.S i_3 a_0_0 by_1_0 out_12 rest_13 st) J1):At g0 w0 (ZaV.p1.S i_3 a_0_0 by_1_0 out_12 rest_13 st) (XK Tryz.prog R (.c (csub ZaV.B [1,1,1,0,1,0,0]) :: .h J1 :: [.b 0,.c (csub ZaV.B [1,1,1,1])])):=by
 unfold ZaV.p1 at h
 refine iteB h (fun c14 h1=>?_) (fun c14 h2=>?_)
 ·obtain ⟨x14,c15,h3⟩:=Zac h1
  obtain ⟨c16,c17,c18,h4⟩:=ck3 h3
  let o1:List PS:=[.r [],.c true,.r [],.r [(1,q1 [.agg [L.arr .u64 4 x14]])],.d {ds:=[],hv:=4096,Hs:=[4096]}]
  have t1 {Q:Prop} (q:Q):=aI c14 (ix 3 4 (aJ (leI 0 63) (Zba.snd c15) (ix 0 4 (aM (neI 64) c16 c17 (neI 64) c18 (ix 0 4 q)))))
  refine iteB h4 (fun c19 h5=>?_) (fun c19 h6=>?_)
  ·obtain ⟨⟨x15,x16⟩,c20,h7⟩:=Zac h5
   exact aqd fol (o1 ++ [.r [(2,wF),(3,wF),(4,wF),(5,wF)],.c true,.r [(2,q1 [.agg [L.arr .u64 4 x15],oB x16])],.d {ds:=[],hv:=512,Hs:=[512]},.s 4]) [2,3,4,5,6,7,8] [2,3,4,5,6,7] (t1 (aO c19 c19 c19 c19 c19 eT (ZbE.snd c20) (aN (neI 64) c16 c17 (neI 64) c18 c16 c17))) (ZaV.p2_ok h7 hE hc1)
  ·obtain ⟨x17,c21,h8⟩:=Zac h6
   let o2:List PS:=o1 ++ [.r [(4,q1 [oB x17]),(6,yF)]]
   have t2 {Q:Prop} (q:Q):=t1 (aN c19 c19 c19 (ZbU.snd c21) c19 c19 q)
   refine iteB h8 (fun c22 h9=>?_) (fun c22 h10=>?_)
   ·obtain ⟨⟨x18,x19⟩,c23,h11⟩:=Zac h9
    exact aqd fol (o2 ++ [.c true,.r [(2,q1 [.agg [L.arr .u64 4 x18],oB x19])],.d {ds:=[],hv:=512,Hs:=[512]},.s 4]) [2,3,4,5,6,7,8] [2,3,4,5,6,7] (t2 (aO c22 (ZbE.snd c23) (neI 64) c16 c17 (neI 64) c18 (aI c16 c17))) (ZaV.p2_ok h11 hE hc1)
   ·exact aqd fol (o2 ++ [.c false,.s 4]) [2,3,4,5,6,7,8] [2,3,4,5,6,7] (t2 c22) (ZaV.p2_ok h10 hE hc1)
 ·obtain rfl:=Zaa h2
  exact afd fol hE [.r [],.c false,.d {ds:=[],hv:=12,Hs:=[4,12]}] [] 0 [] c14
theorem ZaV.snd {a_0_0 by_1_0:List Int} {r:(List Int)×(List Int)} (h:ZaV N a_0_0 by_1_0=some r):SndQ Tryz.prog 179 [.agg [L.arr .u64 4 a_0_0],.agg [L.arr .u64 4 by_1_0]] (ZaV.rs r):=fun st=>
 sO ZaV.B Tryz.func179 fun g0 w0 R hE=>by
  unfold ZaV at h
  obtain ⟨x1,c1,h12⟩:=Zac h
  let o3:List PS:=[.r [],.r [],.r [(1,q1 [oB x1])]]
  refine iteB h12 (fun c2 h13=>?_) (fun c2 h14=>?_)
  ·obtain rfl:=Zaa h13
   exact afd fol hE (o3 ++ [.c true,.d {ds:=[],hv:=12,Hs:=[4,12]}]) [] 0 [] (aI (ZbQ.snd c1) c2)
  ·obtain ⟨x2,c3,h15⟩:=Zac h14
   exact aq fol (o3 ++ [.c false,.r [(1,q1 [oI x2])]]) [2,3,4,5,6,7,8] [2,3,4,5,6,7] (aJ (ZbQ.snd c1) c2 (ZbB.snd c3)) (At.loop N (At.loopN (fun y:Int×(List Int)×(List Int)=>ZaV.p1.S y.1 a_0_0 by_1_0 y.2.1 y.2.2 st) (fun c J hc y h=>ZaV.p1_ok (i_3:=y.1) (out_12:=y.2.1) (rest_13:=y.2.2) h hE (fun i_3 out_12 rest_13=>hc (i_3,out_12,rest_13))) N (w64 (x2-1),List.replicate 4 0,List.replicate 4 0) h15))
noncomputable def ZcB.B:Code:=Tryz.f115.body.getD .skip
noncomputable def ZcB.rs (r:(List Int)):List CV:=[.agg [L.arr .u64 4 r]]
noncomputable def ZcB (N:Nat):Option (List Int):=
 optE (Zbv N (List.replicate 4 0)) fun x1=>
 some x1
theorem ZcB.snd {r:(List Int)} (h:ZcB N=some r):SndQ Tryz.prog 115 [] (ZcB.rs r):=fun st=>
 sO ZcB.B Tryz.func115 fun g0 w0 R hE=>by
  unfold ZcB at h
  obtain ⟨x1,c1,h1⟩:=Zac h
  obtain rfl:=Zaa h1
  exact af fol hE [.r [],.r [(1,q1 [.agg [L.arr .u64 4 x1]])]] [] 0 [] (Zbv.snd c1)
noncomputable def ZdX.B:Code:=Tryz.f118.body.getD .skip
noncomputable def ZdX.rs (r:(List Int)):List CV:=[.agg [L.arr .u64 4 r]]
noncomputable def ZdX (N:Nat) (target_0_0:List Int):Option (List Int):=
 optE (Zcg N 1) fun x1=>
 optE (Zbg N target_0_0 x1) fun (x2,x3)=>
 if x3=true then
  some x1
 else
 optE (Zbv N target_0_0) fun x4=>
 optE (ZaV N x4 x2) fun (x5,x6)=>
 optE (Zbg N x5 x1) fun (x7,x8)=>
 if x8=true then
  optE (ZcB N ) fun x9=>
  some x9
 else
 some x7
theorem ZdX.snd {target_0_0:List Int} {r:(List Int)} (h:ZdX N target_0_0=some r):SndQ Tryz.prog 118 [.agg [L.arr .u64 4 target_0_0]] (ZdX.rs r):=fun st=>
 sO ZdX.B Tryz.func118 fun g0 w0 R hE=>by
  unfold ZdX at h
  obtain ⟨x1,c1,h1⟩:=Zac h
  obtain ⟨⟨x2,x3⟩,c2,h2⟩:=Zac h1
  let o1:List PS:=[.r [],.d {ds:=[(1,q1 [.agg [L.arr .u64 4 x1]]),(2,q1 [.agg [L.arr .u64 4 x2],oB x3])],hv:=192,Hs:=[64,192]},.r []]
  have t1 {Q:Prop} (q:Q):=aL (Zcg.snd c1) (Zcg.snd c1) (Zbg.snd c2) (Zbg.snd c2) q
  refine iteB h2 (fun c3 h3=>?_) (fun c3 h4=>?_)
  ·obtain rfl:=Zaa h3
   exact afd fol hE (o1 ++ [.c true,.r [(0,q1 [.agg [L.arr .u64 4 x1]])]]) [] 0 [] (t1 (aI c3 (Zcg.snd c1)))
  ·obtain ⟨x4,c4,h5⟩:=Zac h4
   obtain ⟨⟨x5,x6⟩,c5,h6⟩:=Zac h5
   obtain ⟨⟨x7,x8⟩,c6,h7⟩:=Zac h6
   let o2:List PS:=o1 ++ [.c false,.d {ds:=[(1,q1 [.agg [L.arr .u64 4 x4]]),(3,q1 [.agg [L.arr .u64 4 x5],.agg [L.arr .u64 4 x6]])],hv:=1920,Hs:=[128,256,384,896,1920]},.d {ds:=[(1,q1 [.agg [L.arr .u64 4 x1]]),(2,q1 [.agg [L.arr .u64 4 x7],oB x8])],hv:=192,Hs:=[64,192]},.r []]
   have t2 {Q:Prop} (q:Q):=t1 (aO c3 (Zbv.snd c4) (Zbv.snd c4) (Zbv.snd c4) (Zbv.snd c4) (ZaV.snd c5) (ZaV.snd c5) (aN (ZaV.snd c5) (ZaV.snd c5) (Zcg.snd c1) (Zcg.snd c1) (Zbg.snd c6) (Zbg.snd c6) q))
   refine iteB h7 (fun c7 h8=>?_) (fun c7 h9=>?_)
   ·obtain ⟨x9,c8,h10⟩:=Zac h8
    obtain rfl:=Zaa h10
    exact afd fol hE (o2 ++ [.c true,.r [(0,q1 [.agg [L.arr .u64 4 x9]])]]) [] 0 [] (t2 (aI c7 (ZcB.snd c8)))
   ·obtain rfl:=Zaa h9
    exact afd fol hE (o2 ++ [.c false,.r []]) [] 0 [] (t2 c7)
noncomputable def Zcu.B:Code:=Tryz.f64.body.getD .skip
noncomputable def Zcu.rs (r:(List Int)):List CV:=[.agg [L.arr .u64 4 r]]
noncomputable def Zcu (N:Nat) (bits_0:Int):Option (List Int):=
 optE (Zaw N bits_0) fun (x1,x2,x3)=>
 if x2=true then
  some (List.replicate 4 0)
 else
 if x3=true then
  some (List.replicate 4 0)
 else
 optE (ZbQ N x1) fun x4=>
 if x4=true then
  some (List.replicate 4 0)
 else
 optE (ZdX N x1) fun x5=>
 some x5
theorem Zcu.snd {bits_0:Int} {r:(List Int)} (h:Zcu N bits_0=some r):SndQ Tryz.prog 64 [oI bits_0] (Zcu.rs r):=fun st=>
 sO Zcu.B Tryz.func64 fun g0 w0 R hE=>by
  unfold Zcu at h
  obtain ⟨⟨x1,x2,x3⟩,c1,h1⟩:=Zac h
  let o1:List PS:=[.r [],.r [(1,q1 [.agg [L.arr .u64 4 x1],oB x2,oB x3])]]
  have t1 {Q:Prop} (q:Q):=aI (Zaw.snd c1) q
  refine iteB h1 (fun c2 h2=>?_) (fun c2 h3=>?_)
  ·obtain rfl:=Zaa h2
   exact af fol hE (o1 ++ [.r [(2,wF),(5,wF),(6,wF)],.c true,.r []]) [] 0 [] (t1 (aM c2 c2 eT eT eT eT))
  ·refine iteB h3 (fun c3 h4=>?_) (fun c3 h5=>?_)
   ·obtain rfl:=Zaa h4
    exact af fol hE (o1 ++ [.r [(3,yF),(5,wF),(6,wF)],.c true,.r []]) [] 0 [] (t1 (aM c2 c2 c3 c3 c3 eT))
   ·obtain ⟨x4,c4,h6⟩:=Zac h5
    let o2:List PS:=o1 ++ [.r [(3,yF),(6,q1 [oB x4]),(7,yF)]]
    refine iteB h6 (fun c5 h7=>?_) (fun c5 h8=>?_)
    ·obtain rfl:=Zaa h7
     exact af fol hE (o2 ++ [.c true,.r []]) [] 0 [] (t1 (aN c2 c2 c3 c3 (ZbQ.snd c4) c3 c5))
    ·obtain ⟨x5,c6,h9⟩:=Zac h8
     obtain rfl:=Zaa h9
     exact af fol hE (o2 ++ [.c false,.r [(1,q1 [.agg [L.arr .u64 4 x5]])]]) [] 0 [] (t1 (aO c2 c2 c3 c3 (ZbQ.snd c4) c3 c5 (ZdX.snd c6)))
noncomputable def ZbA.B:Code:=Tryz.f114.body.getD .skip
noncomputable def ZbA.rs (r:(List Int)×Bool):List CV:=[.agg [L.arr .u64 4 r.1],oB r.2]
noncomputable def ZbA.p1 (N:Nat) (list_0:LL) (c1_:(Bool×Int×(List Int))→Option ((List Int)×Bool)):(Bool×Int×(List Int))→Option ((List Int)×Bool):=fun (over_1,v2,out_6)=>
 if (decide (v2<(len list_0)))=true then
  chk (0≤v2)<|
  getE (list_0[Int.toNat v2]?) ZfD fun x7=>
  optE (Zbg N out_6 x7) fun (x8,x9)=>
  if over_1=true then
   c1_ (true,w64 (v2+1),x8)
  else
  c1_ (x9,w64 (v2+1),x8)
 else
 some (out_6,over_1)
noncomputable def ZbA (N:Nat) (list_0:LL):Option ((List Int)×Bool):=
 loopN (ZbA.p1 N list_0) N (false,0,List.replicate 4 0)
noncomputable def ZbA.p1.S (over_1:Bool) (list_0:LL) (v2:Int) (out_6:List Int) (st:LL):S:=mkS 28 [(2,sA 2),(4,sA 4),(5,.one (.l (L.bool over_1))),(9,sV 4 list_0),(10,sI (len list_0)),(11,sI v2)] [(2,.cells [L.arr .u64 4 (List.replicate 4 0)]),(4,.cells [L.arr .u64 4 out_6])] st
theorem ZbA.p1_ok {over_1 list_0 v2 out_6 st r c1_ J1} (h:ZbA.p1 N list_0 c1_ (over_1,v2,out_6)=some r) (hE:En Tryz.f114 g0 w0 (ZbA.rs r) st R) (hc1 : ∀over_1 v2 out_6,c1_ (over_1,v2,out_6)=some r→At g0 w0 (ZbA.p1.S over_1 list_0 v2 out_6 st) J1):At g0 w0 (ZbA.p1.S over_1 list_0 v2 out_6 st) (XK Tryz.prog R (.c (csub ZbA.B [1,1,1,0,1,0,0]) :: .h J1 :: [.b 0,.c (csub ZbA.B [1,1,1,1])])):=by
 unfold ZbA.p1 at h
 refine iteB h (fun c6 h1=>?_) (fun c6 h2=>?_)
 ·obtain ⟨c7,h3⟩:=ZaU h1
  obtain ⟨x7,c8,h4⟩:=ZhL h3
  obtain ⟨⟨x8,x9⟩,c9,h5⟩:=Zac h4
  let o1:List PS:=[.r [],.c true,.r [(1,{oe:=[L.arr .u64 4 x7]})],.r [],.r [(2,q1 [.agg [L.arr .u64 4 x8],oB x9])]]
  refine iteB h5 (fun c10 h6=>?_) (fun c10 h7=>?_)
  ·exact an fol (o1 ++ [.r [(2,wF)],.r []]) [2,4,5,9,10,11] [2,4] (aN c6 c7 (oD c6) c8 (Zbg.snd c9) c10 c10) (hc1 true (w64 (v2+1)) x8 h6)
  ·exact an fol (o1 ++ [.r [(3,yF)],.r []]) [2,4,5,9,10,11] [2,4] (aN c6 c7 (oD c6) c8 (Zbg.snd c9) c10 c10) (hc1 x9 (w64 (v2+1)) x8 h7)
 ·obtain rfl:=Zaa h2
  exact af fol hE [.r [],.c false,.r []] [] 0 [] c6
theorem ZbA.snd {list_0:LL} {r:(List Int)×Bool} (h:ZbA N list_0=some r):SndQ Tryz.prog 114 [.one (L.sl 4 list_0)] (ZbA.rs r):=fun st=>
 sO ZbA.B Tryz.func114 fun g0 w0 R hE=>by
  unfold ZbA at h
  exact aq fol [.r [],.r [],.r [],.r []] [2,4,5,9,10,11] [2,4] trivial (At.loop N (At.loopN (fun y:Bool×Int×(List Int)=>ZbA.p1.S y.1 list_0 y.2.1 y.2.2 st) (fun c J hc y h=>ZbA.p1_ok (over_1:=y.1) (v2:=y.2.1) (out_6:=y.2.2) h hE (fun over_1 v2 out_6=>hc (over_1,v2,out_6))) N (false,0,List.replicate 4 0) h))
noncomputable def Zdz.B:Code:=Tryz.f63.body.getD .skip
noncomputable def Zdz.rs (r:(List Int)):List CV:=[.agg [L.arr .u64 4 r]]
noncomputable def Zdz (N:Nat) (list_0:LL):Option (List Int):=
 optE (ZbA N list_0) fun (x1,x2)=>
 if x2=true then
  optE (ZcB N ) fun x3=>
  some x3
 else
 some x1
theorem Zdz.snd {list_0:LL} {r:(List Int)} (h:Zdz N list_0=some r):SndQ Tryz.prog 63 [.one (L.sl 4 list_0)] (Zdz.rs r):=fun st=>
 sO Zdz.B Tryz.func63 fun g0 w0 R hE=>by
  unfold Zdz at h
  obtain ⟨⟨x1,x2⟩,c1,h1⟩:=Zac h
  let o1:List PS:=[.r [],.r [(1,q1 [.agg [L.arr .u64 4 x1],oB x2])],.r []]
  refine iteB h1 (fun c2 h2=>?_) (fun c2 h3=>?_)
  ·obtain ⟨x3,c3,h4⟩:=Zac h2
   obtain rfl:=Zaa h4
   exact af fol hE (o1 ++ [.c true,.r [(0,q1 [.agg [L.arr .u64 4 x3]])]]) [] 0 [] (aJ (ZbA.snd c1) c2 (ZcB.snd c3))
  ·obtain rfl:=Zaa h3
   exact af fol hE (o1 ++ [.c false,.r []]) [] 0 [] (aI (ZbA.snd c1) c2)
noncomputable def ZaE.B:Code:=Tryz.f88.body.getD .skip
noncomputable def ZaE.rs (r:Int×LL):List CV:=[oI r.1]
noncomputable def ZaE.p1 (N:Nat) (a_7:Option Nat) (behind_3:Zav) (e_6:Zbl) (st:LL):Option (Int×LL):=
 optE a_7 fun i8=>
 getE (st[i8]?) ZaF fun x9=>
 chk (List.length (x9.list ++ [e_6.ls])*176≤140737488355328)<|
 chk (List.length (x9.spots ++ [behind_3.ls])*96≤140737488355328)<|
 optM (mfind x9.places (L.arr .u8 32 e_6.Id)) (fun j10 e=>Zdh [e] fun x11=>
  some (w64 ((len (x9.list ++ [e_6.ls]))-1),List.set (List.set (List.set (List.set (List.set st i8 (gs x9.lo 15)) i8 (gs (gs x9.lo 15) 16)) i8 (gs (Zal.lo {x9 with list:=x9.list ++ [e_6.ls]}) 16)) i8 (Zal.lo {x9 with list:=x9.list ++ [e_6.ls],spots:=x9.spots ++ [behind_3.ls]})) i8 (Zal.lo (Zal.mk x9.rules (x9.list ++ [e_6.ls]) (x9.spots ++ [behind_3.ls]) (List.set x9.places j10 (L.arr .u8 32 e_6.Id,L.int .i64 (w64 ((len (x9.list ++ [e_6.ls]))-1)))) x9.room))))
 (
  some (w64 ((len (x9.list ++ [e_6.ls]))-1),List.set (List.set (List.set (List.set (List.set st i8 (gs x9.lo 15)) i8 (gs (gs x9.lo 15) 16)) i8 (gs (Zal.lo {x9 with list:=x9.list ++ [e_6.ls]}) 16)) i8 (Zal.lo {x9 with list:=x9.list ++ [e_6.ls],spots:=x9.spots ++ [behind_3.ls]})) i8 (Zal.lo (Zal.mk x9.rules (x9.list ++ [e_6.ls]) (x9.spots ++ [behind_3.ls]) (x9.places ++ [(L.arr .u8 32 e_6.Id,L.int .i64 (w64 ((len (x9.list ++ [e_6.ls]))-1)))]) x9.room))))
noncomputable def ZaE (N:Nat) (a_0:Option Nat) (h_1:Zan) (ahead_2:Int) (behind_3:Zav) (st:LL):Option (Int×LL):=
 optE (Zcu N h_1.Bits) fun x1=>
 if (ahead_2 != (-1))=true then
  optE a_0 fun i2=>
  getE (st[i2]?) ZaF fun x3=>
  chk (0≤ahead_2)<|
  chk (ahead_2<(len x3.list))<|
  getE (x3.list[0+(Int.toNat ahead_2)]?) ZcG fun x4=>
  optE (Zdz N [[L.arr .u64 4 x4.Work],[L.arr .u64 4 x1]]) fun x5=>
  ZaE.p1 N (some i2) behind_3 (Zbl.mk h_1 behind_3.Prev ahead_2 (w64 (x4.Height+1)) x5) st
 else
 ZaE.p1 N a_0 behind_3 (Zbl.mk h_1 behind_3.Prev ahead_2 0 x1) st
noncomputable def ZaE.p1.S (a_7:Option Nat) (behind_3:Zav) (e_6:Zbl) (st:LL):S:=mkS 81 [(0,sP a_7),(7,sA 7),(9,sA 9)] [(7,.cells behind_3.ls),(9,.cells e_6.ls)] st
theorem ZaE.p1_ok {a_7 behind_3 e_6 st r} (h:ZaE.p1 N a_7 behind_3 e_6 st=some r) (hE:En Tryz.f88 g0 w0 (ZaE.rs r) r.2 R):At g0 w0 (ZaE.p1.S a_7 behind_3 e_6 st) (XK Tryz.prog R [.c (csub ZaE.B [1,1,1])]):=by
 unfold ZaE.p1 at h
 obtain ⟨i8,rfl,h1⟩:=Zac h
 obtain ⟨x9,c10,h2⟩:=ZaA h1
 obtain ⟨c11,c12,h3⟩:=ck2 h2
 let o1:List PS:=[.d {ds:=[(5,{oc:=x9.lo}),(8,{oe:=x9.lo}),(12,{oc:=gs x9.lo 15}),(15,{oe:=gs x9.lo 15}),(18,{oc:=gs (gs x9.lo 15) 16,mv:=[51]}),(21,{oc:=gs (Zal.lo {x9 with list:=x9.list ++ [e_6.ls]}) 16,mv:=[58]})],hv:=2408832,Hs:=[128,384,16384,16512,16768,49536,311680,2408832],dh:=[(12,0,{oc:=x9.lo}),(12,128,{oc:=x9.lo}),(12,16384,{oc:=x9.lo}),(12,16512,{oc:=x9.lo})]}]
 have t1 {Q:Prop} (q:Q):=aO c10 c10 c10 c10 z0 (eN (List.length x9.list)) c10 (aO z0 (eN (1)) c11 z0 (eN (List.length x9.list)) c10 z0 (aO (eN (1)) c11 c10 c10 (ZaL c10 (gs x9.lo 15)) c10 c10 (aO (ZaL c10 (gs x9.lo 15)) z0 (eN (List.length x9.spots)) (ZaL c10 (gs x9.lo 15)) z0 (eN (1)) c12 (aO (ZaL (ZaL c10 (gs x9.lo 15)) (gs (gs x9.lo 15) 16)) z0 (eN (List.length (x9.list ++ [e_6.ls]))) (ZaL (ZaL (ZaL c10 (gs x9.lo 15)) (gs (gs x9.lo 15) 16)) (gs (Zal.lo {x9 with list:=x9.list ++ [e_6.ls]}) 16)) z0 (eN (List.length (x9.spots ++ [behind_3.ls]))) (ZaL (ZaL (ZaL (ZaL c10 (gs x9.lo 15)) (gs (gs x9.lo 15) 16)) (gs (Zal.lo {x9 with list:=x9.list ++ [e_6.ls]}) 16)) (Zal.lo {x9 with list:=x9.list ++ [e_6.ls],spots:=x9.spots ++ [behind_3.ls]})) (aI (ZaL (ZaL (ZaL (ZaL c10 (gs x9.lo 15)) (gs (gs x9.lo 15) 16)) (gs (Zal.lo {x9 with list:=x9.list ++ [e_6.ls]}) 16)) (Zal.lo {x9 with list:=x9.list ++ [e_6.ls],spots:=x9.spots ++ [behind_3.ls]})) q)))))
 rcases Zfr h3 with ⟨j10,h7,c13,h4⟩ | ⟨c13,h5⟩
 ·obtain ⟨x11,h8,h6⟩:=Zec h4
  obtain rfl:=Zek h8
  obtain rfl:=Zaa h6
  exact afd fol hE (o1 ++ [.d {ds:=[(3,{oc:=Zal.lo {x9 with list:=x9.list ++ [e_6.ls],spots:=x9.spots ++ [behind_3.ls]}}),(9,{oc:=Zal.lo {x9 with list:=x9.list ++ [e_6.ls],spots:=x9.spots ++ [behind_3.ls]}}),(12,{oc:=Zal.lo {x9 with list:=x9.list ++ [e_6.ls],spots:=x9.spots ++ [behind_3.ls]},m:=j10})],hv:=4096,Hs:=[4096]},.r [(3,{oc:=Zal.lo (Zal.mk x9.rules (x9.list ++ [e_6.ls]) (x9.spots ++ [behind_3.ls]) (List.set x9.places j10 (L.arr .u8 32 e_6.Id,L.int .i64 (w64 ((len (x9.list ++ [e_6.ls]))-1)))) x9.room)})]]) [] 0 [] (t1 (aJ (ex_at c13) (ZaL (ZaL (ZaL (ZaL c10 (gs x9.lo 15)) (gs (gs x9.lo 15) 16)) (gs (Zal.lo {x9 with list:=x9.list ++ [e_6.ls]}) 16)) (Zal.lo {x9 with list:=x9.list ++ [e_6.ls],spots:=x9.spots ++ [behind_3.ls]})) (ZaL (ZaL (ZaL (ZaL (ZaL c10 (gs x9.lo 15)) (gs (gs x9.lo 15) 16)) (gs (Zal.lo {x9 with list:=x9.list ++ [e_6.ls]}) 16)) (Zal.lo {x9 with list:=x9.list ++ [e_6.ls],spots:=x9.spots ++ [behind_3.ls]})) (Zal.lo (Zal.mk x9.rules (x9.list ++ [e_6.ls]) (x9.spots ++ [behind_3.ls]) (List.set x9.places j10 (L.arr .u8 32 e_6.Id,L.int .i64 (w64 ((len (x9.list ++ [e_6.ls]))-1)))) x9.room)))))
 ·obtain rfl:=Zaa h5
  exact afd fol hE (o1 ++ [.d {ds:=[(3,{oc:=Zal.lo {x9 with list:=x9.list ++ [e_6.ls],spots:=x9.spots ++ [behind_3.ls]}}),(9,{oc:=Zal.lo {x9 with list:=x9.list ++ [e_6.ls],spots:=x9.spots ++ [behind_3.ls]}}),(12,{oc:=Zal.lo {x9 with list:=x9.list ++ [e_6.ls],spots:=x9.spots ++ [behind_3.ls]},yes:=false})],hv:=4096,Hs:=[4096]},.r [(3,{oc:=Zal.lo (Zal.mk x9.rules (x9.list ++ [e_6.ls]) (x9.spots ++ [behind_3.ls]) (x9.places ++ [(L.arr .u8 32 e_6.Id,L.int .i64 (w64 ((len (x9.list ++ [e_6.ls]))-1)))]) x9.room)})]]) [] 0 [] (t1 (aJ c13 (ZaL (ZaL (ZaL (ZaL c10 (gs x9.lo 15)) (gs (gs x9.lo 15) 16)) (gs (Zal.lo {x9 with list:=x9.list ++ [e_6.ls]}) 16)) (Zal.lo {x9 with list:=x9.list ++ [e_6.ls],spots:=x9.spots ++ [behind_3.ls]})) (ZaL (ZaL (ZaL (ZaL (ZaL c10 (gs x9.lo 15)) (gs (gs x9.lo 15) 16)) (gs (Zal.lo {x9 with list:=x9.list ++ [e_6.ls]}) 16)) (Zal.lo {x9 with list:=x9.list ++ [e_6.ls],spots:=x9.spots ++ [behind_3.ls]})) (Zal.lo (Zal.mk x9.rules (x9.list ++ [e_6.ls]) (x9.spots ++ [behind_3.ls]) (x9.places ++ [(L.arr .u8 32 e_6.Id,L.int .i64 (w64 ((len (x9.list ++ [e_6.ls]))-1)))]) x9.room)))))
theorem ZaE.snd {a_0:Option Nat} {h_1:Zan} {ahead_2:Int} {behind_3:Zav} {st:LL} {r:Int×LL} (h:ZaE N a_0 h_1 ahead_2 behind_3 st=some r):Snd Tryz.prog 88 [.one (L.ptr a_0),.agg h_1.ls,oI ahead_2,.agg behind_3.ls] st (ZaE.rs r) r.2:=
 sO ZaE.B Tryz.func88 fun g0 w0 R hE=>by
  unfold ZaE at h
  obtain ⟨x1,c1,h9⟩:=Zac h
  let o2:List PS:=[.r [],.d {ds:=[(6,q1 [.agg [L.arr .u64 4 x1]])],hv:=768,Hs:=[256,768]},.r []]
  have t2 {Q:Prop} (q:Q):=aJ (Zcu.snd c1) (Zcu.snd c1) q
  refine iteB h9 (fun c2 h10=>?_) (fun c2 h11=>?_)
  ·obtain ⟨i2,rfl,h12⟩:=Zac h10
   obtain ⟨x3,c4,h13⟩:=ZaA h12
   obtain ⟨c5,c6,h14⟩:=ck2 h13
   obtain ⟨x4,c7,h15⟩:=ZcV h14
   obtain ⟨x5,c8,h16⟩:=Zac h15
   exact aqd fol (o2 ++ [.c true,.r [(3,{oc:=x3.lo}),(7,{oc:=x3.lo,oe:=x4.ls})],.d {ds:=[(3,{oc:=x3.lo}),(7,{oc:=x3.lo,oe:=x4.ls}),(11,{rs:=[.agg [L.arr .u64 4 x5]],m:=2})],hv:=9216,Hs:=[1024,9216]},.s 1]) [0,7,9] [7,9] (t2 (aO c2 c4 c5 c6 c7 c4 c4 (aN c5 c6 c7 c4 z0 (eN (2)) (Zdz.snd c8)))) (ZaE.p1_ok h16 hE)
  ·exact aqd fol (o2 ++ [.c false,.s 1]) [0,7,9] [7,9] (t2 c2) (ZaE.p1_ok h11 hE)
noncomputable def ZcN.B:Code:=Tryz.f24.body.getD .skip
noncomputable def ZcN.rs (r:(Option Nat)×Int×LL):List CV:=[.one (L.ptr r.1),oI r.2.1]
noncomputable def ZcN (N:Nat) (p_0:Zag) (room_1:Int) (st:LL):Option ((Option Nat)×Int×LL):=
 optE (Zbb N p_0) fun x1=>
 if (!x1)=true then
  some (none,1,st)
 else
 chk (List.length ([]++p_0.Gates)*16≤140737488355328)<|
 chk (List.length ([]++p_0.Checks)*40≤140737488355328)<|
 optE (ZdG N {p_0 with Gates:=[]++p_0.Gates,Checks:=[]++p_0.Checks}) fun x2=>
 optE (ZaE N (some (List.length st)) p_0.Genesis (-1) x2 (st ++ [Zal.lo (Zal.mk {p_0 with Gates:=[]++p_0.Gates,Checks:=[]++p_0.Checks} [] [] [] (if (512:Int)<(if (1:Int)>room_1 then 1 else room_1) then 512 else (if (1:Int)>room_1 then 1 else room_1)))])) fun (x3,st4)=>
 some ((some (List.length st)),0,st4)
theorem ZcN.snd {p_0:Zag} {room_1:Int} {st:LL} {r:(Option Nat)×Int×LL} (h:ZcN N p_0 room_1 st=some r):Snd Tryz.prog 24 [.agg p_0.ls,oI room_1] st (ZcN.rs r) r.2.2:=
 sO ZcN.B Tryz.func24 fun g0 w0 R hE=>by
  unfold ZcN at h
  obtain ⟨x1,c1,h1⟩:=Zac h
  let o1:List PS:=[.r [],.r [(1,q1 [oB x1])]]
  refine iteB h1 (fun c2 h2=>?_) (fun c2 h3=>?_)
  ·obtain rfl:=Zaa h2
   exact af fol hE (o1 ++ [.c true,.r []]) [] 0 [] (aI (Zbb.snd c1) c2)
  ·obtain ⟨c3,c4,h4⟩:=ck2 h3
   obtain ⟨x2,c5,h5⟩:=Zac h4
   obtain ⟨⟨x3,st4⟩,c6,h6⟩:=Zac h5
   obtain rfl:=Zaa h6
   exact afd fol hE (o1 ++ [.c false,.d {ds:=[(7,{fz:=[12]}),(9,{fz:=[15]})],hv:=676,Hs:=[4,36,164,676]},.r [(5,{ns:=[15,16]}),(6,{m:=1})],.d {ds:=[(4,q1 [.agg x2.ls]),(5,{rs:=[oI x3],st:=st4})],hv:=32,Hs:=[32]},.r []]) [] 0 [] (aO (Zbb.snd c1) c2 c3 c4 z0 (eN (List.length ([]++p_0.Gates))) z0 (aJ (eN (List.length ([]++p_0.Checks))) (ZdG.snd c5) (ZaE.snd c6)))
noncomputable def Zdl.B:Code:=Tryz.f23.body.getD .skip
noncomputable def Zdl.rs (r:(Option Nat)×Int×LL):List CV:=[.one (L.ptr r.1),oI r.2.1]
noncomputable def Zdl (N:Nat) (p_0:Zag) (room_1:Int) (st:LL):Option ((Option Nat)×Int×LL):=
 optE (ZcN N p_0 room_1 st) fun (x1,x2,st3)=>
 if (x2 != 0)=true then
  some (none,x2,st3)
 else
 some ((some (List.length st3)),0,st3 ++ [[L.ptr x1,L.own true 1 [[L.int .i64 (-1)]]]])
theorem Zdl.snd {p_0:Zag} {room_1:Int} {st:LL} {r:(Option Nat)×Int×LL} (h:Zdl N p_0 room_1 st=some r):Snd Tryz.prog 23 [.agg p_0.ls,oI room_1] st (Zdl.rs r) r.2.2:=
 sO Zdl.B Tryz.func23 fun g0 w0 R hE=>by
  unfold Zdl at h
  obtain ⟨⟨x1,x2,st3⟩,c1,h1⟩:=Zac h
  let o1:List PS:=[.r [],.r [(2,{rs:=[.one (L.ptr x1),oI x2],st:=st3})],.r []]
  refine iteB h1 (fun c2 h2=>?_) (fun c2 h3=>?_)
  ·obtain rfl:=Zaa h2
   exact af fol hE (o1 ++ [.c true,.r []]) [] 0 [] (aI (ZcN.snd c1) c2)
  ·obtain rfl:=Zaa h3
   exact af fol hE (o1 ++ [.c false,.r [(2,{ns:=[1]}),(3,{m:=1,mv:=[18]})]]) [] 0 [] (aK (ZcN.snd c1) c2 z0 (eN (1)))
noncomputable def Zbi.B:Code:=Tryz.f27.body.getD .skip
noncomputable def Zbi.rs (r:Int):List CV:=[oI r]
noncomputable def Zbi (N:Nat) (a_0:Zal):Option Int:=
 some (len a_0.list)
theorem Zbi.snd {a_0:Zal} {r:Int} (h:Zbi N a_0=some r):SndQ Tryz.prog 27 [.one (L.bx 87 a_0.ls)] (Zbi.rs r):=fun st=>
 sO Zbi.B Tryz.func27 fun g0 w0 R hE=>by
  unfold Zbi at h
  obtain rfl:=Zaa h
  exact af fol hE [.r [],.r [],.c false,.r [(3,{oe:=a_0.ls})]] [] 0 [] (aI eF (eO a_0.ls))
noncomputable def ZbI.B:Code:=Tryz.f34.body.getD .skip
noncomputable def ZbI.rs (r:Int):List CV:=[oI r]
noncomputable def ZbI (N:Nat) (t_0:Zaj):Option Int:=
 optE (Zbi N t_0.store) fun x1=>
 some x1
theorem ZbI.snd {t_0:Zaj} {r:Int} (h:ZbI N t_0=some r):SndQ Tryz.prog 34 [.one (L.bx 2 t_0.ls)] (ZbI.rs r):=fun st=>
 sO ZbI.B Tryz.func34 fun g0 w0 R hE=>by
  unfold ZbI at h
  obtain ⟨x1,c1,h1⟩:=Zac h
  obtain rfl:=Zaa h1
  exact af fol hE [.r [],.r [],.c false,.r [(3,{oe:=t_0.ls}),(4,q0 [oI x1])]] [] 0 [] (aJ eF (eO t_0.ls) (Zbi.snd c1))
noncomputable def ZaO.B:Code:=Tryz.f94.body.getD .skip
noncomputable def ZaO.rs (r:Bool):List CV:=[oB r]
noncomputable def ZaO (N:Nat) (a_0:Zal) (at_1:Int):Option Bool:=
 if (decide (at_1≥0))=true then
  some (decide (at_1<(len a_0.list)))
 else
 some false
theorem ZaO.snd {a_0:Zal} {at_1:Int} {r:Bool} (h:ZaO N a_0 at_1=some r):SndQ Tryz.prog 94 [.one (L.bx 87 a_0.ls),oI at_1] (ZaO.rs r):=fun st=>
 sO ZaO.B Tryz.func94 fun g0 w0 R hE=>by
  unfold ZaO at h
  refine iteB h (fun c1 h1=>?_) (fun c1 h2=>?_)
  ·obtain rfl:=Zaa h1
   exact af fol hE [.r [],.r [(11,{oe:=a_0.ls})]] [] 0 [] (aO eT eT eT c1 c1 c1 c1 (aL c1 (eO a_0.ls) c1 c1 c1))
  ·obtain rfl:=Zaa h2
   exact af fol hE [.r [],.r [(7,wF),(8,wF),(9,wF),(10,wF),(11,wF),(12,wF),(13,wF),(14,yF)]] [] 0 [] (aO eT eT eT c1 c1 c1 c1 (aK c1 c1 c1 c1))
noncomputable def ZaW.B:Code:=Tryz.f29.body.getD .skip
noncomputable def ZaW.rs (r:Zbl×Bool):List CV:=[.agg r.1.ls,oB r.2]
noncomputable def ZaW (N:Nat) (a_0:Zal) (at_1:Int):Option (Zbl×Bool):=
 optE (ZaO N a_0 at_1) fun x1=>
 if (!x1)=true then
  some (Zbl.mk (Zan.mk 0 (List.replicate 32 0) (List.replicate 32 0) 0 0 0) (List.replicate 32 0) (-1) 0 (List.replicate 4 0),false)
 else
 chk (0≤at_1)<|
 chk (at_1<(len a_0.list))<|
 getE (a_0.list[Int.toNat at_1]?) ZcG fun x2=>
 some (x2,true)
theorem ZaW.snd {a_0:Zal} {at_1:Int} {r:Zbl×Bool} (h:ZaW N a_0 at_1=some r):SndQ Tryz.prog 29 [.one (L.bx 87 a_0.ls),oI at_1] (ZaW.rs r):=fun st=>
 sO ZaW.B Tryz.func29 fun g0 w0 R hE=>by
  unfold ZaW at h
  obtain ⟨x1,c1,h1⟩:=Zac h
  let o1:List PS:=[.r [],.r [(2,q0 [oB x1])]]
  refine iteB h1 (fun c2 h2=>?_) (fun c2 h3=>?_)
  ·obtain rfl:=Zaa h2
   exact af fol hE (o1 ++ [.c true,.r []]) [] 0 [] (aI (ZaO.snd c1) c2)
  ·obtain ⟨c3,c4,h4⟩:=ck2 h3
   obtain ⟨x2,c5,h5⟩:=ZcV h4
   obtain rfl:=Zaa h5
   exact af fol hE (o1 ++ [.c false,.r [(3,{oe:=a_0.ls}),(6,{oe:=x2.ls})]]) [] 0 [] (aM (ZaO.snd c1) c2 (eO a_0.ls) c3 c4 c5)
noncomputable def Zbf.B:Code:=Tryz.f28.body.getD .skip
noncomputable def Zbf.rs (r:Zbl×Bool):List CV:=[.agg r.1.ls,oB r.2]
noncomputable def Zbf (N:Nat) (t_0:Zaj) (at_1:Int):Option (Zbl×Bool):=
 optE (ZaW N t_0.store at_1) fun (x1,x2)=>
 some (x1,x2)
theorem Zbf.snd {t_0:Zaj} {at_1:Int} {r:Zbl×Bool} (h:Zbf N t_0 at_1=some r):SndQ Tryz.prog 28 [.one (L.bx 2 t_0.ls),oI at_1] (Zbf.rs r):=fun st=>
 sO Zbf.B Tryz.func28 fun g0 w0 R hE=>by
  unfold Zbf at h
  obtain ⟨⟨x1,x2⟩,c1,h1⟩:=Zac h
  obtain rfl:=Zaa h1
  exact af fol hE [.r [],.r [],.c false,.r [(3,{oe:=t_0.ls}),(5,q0 [.agg x1.ls,oB x2])]] [] 0 [] (aJ eF (eO t_0.ls) (ZaW.snd c1))
noncomputable def ZaH.B:Code:=Tryz.f98.body.getD .skip
noncomputable def ZaH.rs (r:Int):List CV:=[oI r]
noncomputable def ZaH (N:Nat) (t_0:Zaj) (at_1:Int):Option Int:=
 optE (Zbf N t_0 at_1) fun (x1,x2)=>
 if (!x2)=true then
  some (-1)
 else
 some x1.Height
theorem ZaH.snd {t_0:Zaj} {at_1:Int} {r:Int} (h:ZaH N t_0 at_1=some r):SndQ Tryz.prog 98 [.one (L.bx 2 t_0.ls),oI at_1] (ZaH.rs r):=fun st=>
 sO ZaH.B Tryz.func98 fun g0 w0 R hE=>by
  unfold ZaH at h
  obtain ⟨⟨x1,x2⟩,c1,h1⟩:=Zac h
  let o1:List PS:=[.r [],.r [(2,q0 [.agg x1.ls,oB x2])],.r []]
  refine iteB h1 (fun c2 h2=>?_) (fun c2 h3=>?_)
  ·obtain rfl:=Zaa h2
   exact af fol hE (o1 ++ [.c true,.r []]) [] 0 [] (aI (Zbf.snd c1) c2)
  ·obtain rfl:=Zaa h3
   exact af fol hE (o1 ++ [.c false,.r []]) [] 0 [] (aI (Zbf.snd c1) c2)
noncomputable def Zao.B:Code:=Tryz.f47.body.getD .skip
noncomputable def Zao.rs (r:Int):List CV:=[oI r]
noncomputable def Zao.p2 (N:Nat) (c1_:(Int×Int)→Option Int) (t_0:Zaj) (height_2 next_8 x6 x7:Int):Option Int:=
 optE (ZaH N t_0 next_8) fun x9=>
 c1_ (next_8,x9)
noncomputable def Zao.p1 (N:Nat) (t_0:Zaj) (height_2:Int) (c1_:(Int×Int)→Option Int):(Int×Int)→Option Int:=fun (at_2,h_3)=>
 if (decide (h_3>height_2))=true then
  optE (Zbf N t_0 at_2) fun (x4,x5)=>
  chk (0≤at_2)<|
  chk (at_2<(len t_0.leaps))<|
  getE (t_0.leaps[Int.toNat at_2]?) Zdh fun x6=>
  if (x6 != (-1))=true then
   optE (ZaH N t_0 x6) fun x7=>
   if (decide (x7≥height_2))=true then
    Zao.p2 N c1_ t_0 height_2 x6 x6 x7
   else
   Zao.p2 N c1_ t_0 height_2 x4.Ahead x6 x7
  else
  optE (ZaH N t_0 x4.Ahead) fun x10=>
  c1_ (x4.Ahead,x10)
 else
 some at_2
noncomputable def Zao (N:Nat) (t_0:Zaj) (at_1 height_2:Int):Option Int:=
 optE (ZaH N t_0 at_1) fun x1=>
 if (decide (height_2<0))=true then
  some (-1)
 else
 if (decide (height_2>x1))=true then
  some (-1)
 else
 loopN (Zao.p1 N t_0 height_2) N (at_1,x1)
noncomputable def Zao.p2.S (t_0:Zaj) (height_2 next_8 x6 x7:Int) (st:LL):S:=mkS 55 [(0,.one (.l (L.bx 2 t_0.ls))),(2,sI height_2),(10,sI next_8),(43,.one (.l (L.bx 2 t_0.ls))),(44,sI x6),(45,sI x7),(46,sI height_2),(47,.one (.l (L.bool (decide (x7≥height_2)))))] [] st
noncomputable def Zao.p1.S (t_0:Zaj) (at_2 height_2 h_3:Int) (st:LL):S:=mkS 55 [(0,.one (.l (L.bx 2 t_0.ls))),(1,sI at_2),(2,sI height_2),(7,sI h_3)] [] st
theorem Zao.p2_ok {t_0 height_2 next_8 x6 x7 st r c1_ J1} (h:Zao.p2 N c1_ t_0 height_2 next_8 x6 x7=some r) (hE:En Tryz.f47 g0 w0 (Zao.rs r) st R) (hc1 : ∀at_2 h_3,c1_ (at_2,h_3)=some r→At g0 w0 (Zao.p1.S t_0 at_2 height_2 h_3 st) J1):At g0 w0 (Zao.p2.S t_0 height_2 next_8 x6 x7 st) (XK Tryz.prog R [.c (csub Zao.B [1,1,1,0,0,0,1,0,1,1,1]),.b 1,.h J1,.b 0,.c (csub Zao.B [1,1,1,1])]):=by
 unfold Zao.p2 at h
 obtain ⟨x9,c12,h1⟩:=Zac h
 exact an fol [.r [(3,q0 [oI x9])]] [0,1,2,7] [] (ZaH.snd c12) (hc1 next_8 x9 h1)
theorem Zao.p1_ok {t_0 at_2 height_2 h_3 st r c1_ J1} (h:Zao.p1 N t_0 height_2 c1_ (at_2,h_3)=some r) (hE:En Tryz.f47 g0 w0 (Zao.rs r) st R) (hc1 : ∀at_2 h_3,c1_ (at_2,h_3)=some r→At g0 w0 (Zao.p1.S t_0 at_2 height_2 h_3 st) J1):At g0 w0 (Zao.p1.S t_0 at_2 height_2 h_3 st) (XK Tryz.prog R (.c (csub Zao.B [1,1,1,0,0,0]) :: .h J1 :: [.b 0,.c (csub Zao.B [1,1,1,1])])):=by
 unfold Zao.p1 at h
 refine iteB h (fun c4 h2=>?_) (fun c4 h3=>?_)
 ·obtain ⟨⟨x4,x5⟩,c5,h4⟩:=Zac h2
  obtain ⟨c6,c7,h5⟩:=ck2 h4
  obtain ⟨x6,c8,h6⟩:=Zdw h5
  let o1:List PS:=[.r [],.c true,.r [(2,q0 [.agg x4.ls,oB x5])],.r [],.r [(3,{oe:=t_0.ls}),(6,{oe:=[L.int .i64 x6]})]]
  have t1 {Q:Prop} (q:Q):=aN c4 (Zbf.snd c5) (eO t_0.ls) c6 c7 c8 q
  refine iteB h6 (fun c9 h7=>?_) (fun c9 h8=>?_)
  ·obtain ⟨x7,c10,h9⟩:=Zac h7
   let o2:List PS:=o1 ++ [.r [(5,q0 [oI x7])]]
   have t2 {Q:Prop} (q:Q):=t1 (aO c9 c9 c9 (ZaH.snd c10) c9 c9 c9 q)
   refine iteB h9 (fun c11 h10=>?_) (fun c11 h11=>?_)
   ·exact aq fol (o2 ++ [.c true,.r [],.s 5]) [0,2,10,43,44,45,46,47] [] (t2 c11) (Zao.p2_ok h10 hE hc1)
   ·exact aq fol (o2 ++ [.c false,.s 5]) [0,2,10,43,44,45,46,47] [] (t2 c11) (Zao.p2_ok h11 hE hc1)
  ·obtain ⟨x10,c13,h12⟩:=Zac h8
   exact an fol (o1 ++ [.r [(3,wF),(4,wF),(5,wF),(6,wF),(7,wF),(8,yF)],.c false,.r [(3,q0 [oI x10])]]) [0,1,2,7] [] (t1 (aO c9 c9 c9 c9 c9 c9 eF (ZaH.snd c13))) (hc1 x4.Ahead x10 h12)
 ·obtain rfl:=Zaa h3
  exact af fol hE [.r [],.c false,.r []] [] 0 [] c4
theorem Zao.snd {t_0:Zaj} {at_1 height_2:Int} {r:Int} (h:Zao N t_0 at_1 height_2=some r):SndQ Tryz.prog 47 [.one (L.bx 2 t_0.ls),oI at_1,oI height_2] (Zao.rs r):=fun st=>
 sO Zao.B Tryz.func47 fun g0 w0 R hE=>by
  unfold Zao at h
  obtain ⟨x1,c1,h13⟩:=Zac h
  let o3:List PS:=[.r [],.r [(2,q0 [oI x1])]]
  have t3 {Q:Prop} (q:Q):=aI (ZaH.snd c1) q
  refine iteB h13 (fun c2 h14=>?_) (fun c2 h15=>?_)
  ·obtain rfl:=Zaa h14
   exact af fol hE (o3 ++ [.r [(3,wF),(4,wF),(5,wF)],.c true,.r []]) [] 0 [] (t3 (aL c2 c2 c2 c2 eT))
  ·refine iteB h15 (fun c3 h16=>?_) (fun c3 h17=>?_)
   ·obtain rfl:=Zaa h16
    exact af fol hE (o3 ++ [.r [(6,yF)],.c true,.r []]) [] 0 [] (t3 (aL c2 c2 c2 c2 c3))
   ·exact aq fol (o3 ++ [.r [(6,yF)],.c false]) [0,1,2,7] [] (t3 (aL c2 c2 c2 c2 c3)) (At.loop N (At.loopN (fun y:Int×Int=>Zao.p1.S t_0 y.1 height_2 y.2 st) (fun c J hc y h=>Zao.p1_ok (at_2:=y.1) (h_3:=y.2) h hE (fun at_2 h_3=>hc (at_2,h_3))) N (at_1,x1) h17))
noncomputable def Zcr.B:Code:=Tryz.f144.body.getD .skip
noncomputable def Zcr.rs (r:Int):List CV:=[oI r]
noncomputable def Zcr (N:Nat) (n_0:Int):Option Int:=
 some (bitsOf .and .i64 n_0 (w64 (n_0-1)))
theorem Zcr.snd {n_0:Int} {r:Int} (h:Zcr N n_0=some r):SndQ Tryz.prog 144 [oI n_0] (Zcr.rs r):=fun st=>
 sO Zcr.B Tryz.func144 fun g0 w0 R hE=>by
  unfold Zcr at h
  obtain rfl:=Zaa h
  exact af fol hE [.r [],.r []] [] 0 [] trivial
noncomputable def ZbN.B:Code:=Tryz.f86.body.getD .skip
noncomputable def ZbN.rs (r:Int):List CV:=[oI r]
noncomputable def ZbN (N:Nat) (h_0:Int):Option Int:=
 if (decide (h_0<2))=true then
  some 0
 else
 if ((bitsOf .and .i64 h_0 1)==0)=true then
  optE (Zcr N h_0) fun x1=>
  some x1
 else
 optE (Zcr N (w64 (h_0-1))) fun x2=>
 optE (Zcr N x2) fun x3=>
 some (w64 (x3+1))
theorem ZbN.snd {h_0:Int} {r:Int} (h:ZbN N h_0=some r):SndQ Tryz.prog 86 [oI h_0] (ZbN.rs r):=fun st=>
 sO ZbN.B Tryz.func86 fun g0 w0 R hE=>by
  unfold ZbN at h
  refine iteB h (fun c1 h1=>?_) (fun c1 h2=>?_)
  ·obtain rfl:=Zaa h1
   exact af fol hE [.r [],.r [],.c true,.r []] [] 0 [] c1
  ·refine iteB h2 (fun c2 h3=>?_) (fun c2 h4=>?_)
   ·obtain ⟨x1,c3,h5⟩:=Zac h3
    obtain rfl:=Zaa h5
    exact af fol hE [.r [],.r [],.c false,.r [],.c true,.r [(1,q1 [oI x1])]] [] 0 [] (aJ c1 c2 (Zcr.snd c3))
   ·obtain ⟨x2,c4,h6⟩:=Zac h4
    obtain ⟨x3,c5,h7⟩:=Zac h6
    obtain rfl:=Zaa h7
    exact af fol hE [.r [],.r [],.c false,.r [],.c false,.r [(2,q1 [oI x2]),(3,q1 [oI x3])]] [] 0 [] (aK c1 c2 (Zcr.snd c4) (Zcr.snd c5))
noncomputable def Zcq.B:Code:=Tryz.f21.body.getD .skip
noncomputable def Zcq.rs (r:Bool×LL):List CV:=[oB r.1]
noncomputable def Zcq (N:Nat) (st:LL):Option (Bool×LL):=
 optE (Zdl N (Zag.mk 545259519 4 10 0 false [] [] (List.replicate 4 0) (List.replicate 4 0) (Zan.mk 0 (List.replicate 32 0) (List.replicate 32 0) 0 0 0)) 5 st) fun (x1,x2,st3)=>
 if (x2==0)=true then
  optE x1 fun i4=>
  getE (st3[i4]?) ZbF fun x5 x6=>
  optE x5 fun i7=>
  getE (st3[i7]?) ZaF fun x8=>
  optE (ZbI N (Zaj.mk x8 x6)) fun x9=>
  if (x9==1)=true then
   optE (Zao N (Zaj.mk x8 x6) 0 0) fun x10=>
   if (x10==0)=true then
    optE (ZbN N 8) fun x11=>
    if (x11==0)=true then
     optE (ZbN N 7) fun x12=>
     some (x12==1,st3)
    else
    some (false,st3)
   else
   some (false,st3)
  else
  some (false,st3)
 else
 some (false,st3)
theorem Zcq.snd {st:LL} {r:Bool×LL} (h:Zcq N st=some r):Snd Tryz.prog 21 [] st (Zcq.rs r) r.2:=
 sO Zcq.B Tryz.func21 fun g0 w0 R hE=>by
  unfold Zcq at h
  obtain ⟨⟨x1,x2,st3⟩,c1,h1⟩:=Zac h
  have t1 {Q:Prop} (q:Q):=aI (Zdl.snd c1) q
  refine iteB h1 (fun c2 h2=>?_) (fun c2 h3=>?_)
  ·obtain ⟨i4,rfl,h4⟩:=Zac h2
   obtain ⟨x5,x6,c4,h5⟩:=Zbt h4
   obtain ⟨i7,rfl,h6⟩:=Zac h5
   obtain ⟨x8,c6,h7⟩:=ZaA h6
   obtain ⟨x9,c7,h8⟩:=Zac h7
   let o1:List PS:=[.r [],.r [(1,{rs:=[.one (L.ptr (some i4)),oI x2],st:=st3})]]
   have t2 {Q:Prop} (q:Q):=t1 (aN c2 c2 (bO 2 c4 ((bC 87 c6 (Zal.bv x8) (bW bN)):BVs st3 [L.ptr (some i7),L.own true 1 x6] (Zaj.ls (Zaj.mk x8 x6)))) (ZbI.snd c7) c2 c2 q)
   refine iteB h8 (fun c8 h9=>?_) (fun c8 h10=>?_)
   ·obtain ⟨x10,c9,h11⟩:=Zac h9
    have t3 {Q:Prop} (q:Q):=t2 (aN c8 c8 (bO 2 c4 ((bC 87 c6 (Zal.bv x8) (bW bN)):BVs st3 [L.ptr (some i7),L.own true 1 x6] (Zaj.ls (Zaj.mk x8 x6)))) (Zao.snd c9) c8 c8 q)
    refine iteB h11 (fun c10 h12=>?_) (fun c10 h13=>?_)
    ·obtain ⟨x11,c11,h14⟩:=Zac h12
     refine iteB h14 (fun c12 h15=>?_) (fun c12 h16=>?_)
     ·obtain ⟨x12,c13,h17⟩:=Zac h15
      obtain rfl:=Zaa h17
      exact af fol hE (o1 ++ [.r [(4,{rs:=[oI x9],m:=10,cv:=[.one (L.bx 2 (Zaj.ls (Zaj.mk x8 x6)))]}),(9,{rs:=[oI x10],m:=10,cv:=[.one (L.bx 2 (Zaj.ls (Zaj.mk x8 x6)))]}),(13,q1 [oI x11]),(17,q1 [oI x12])]]) [] 0 [] (t3 (aO c10 (ZbN.snd c11) c10 c10 c12 (ZbN.snd c13) c12 c12))
     ·obtain rfl:=Zaa h16
      exact af fol hE (o1 ++ [.r [(4,{rs:=[oI x9],m:=10,cv:=[.one (L.bx 2 (Zaj.ls (Zaj.mk x8 x6)))]}),(9,{rs:=[oI x10],m:=10,cv:=[.one (L.bx 2 (Zaj.ls (Zaj.mk x8 x6)))]}),(13,q1 [oI x11]),(17,wF),(18,wF),(19,yF)]]) [] 0 [] (t3 (aN c10 (ZbN.snd c11) c10 c10 c12 c12 c12))
    ·obtain rfl:=Zaa h13
     exact af fol hE (o1 ++ [.r [(4,{rs:=[oI x9],m:=10,cv:=[.one (L.bx 2 (Zaj.ls (Zaj.mk x8 x6)))]}),(9,{rs:=[oI x10],m:=10,cv:=[.one (L.bx 2 (Zaj.ls (Zaj.mk x8 x6)))]}),(13,wF),(14,wF),(15,yF),(17,wF),(18,wF),(19,yF)]]) [] 0 [] (t3 (aM c10 c10 c10 eF eF eF))
   ·obtain rfl:=Zaa h10
    exact af fol hE (o1 ++ [.r [(4,{rs:=[oI x9],m:=10,cv:=[.one (L.bx 2 (Zaj.ls (Zaj.mk x8 x6)))]}),(8,wF),(9,wF),(10,wF),(11,yF),(13,wF),(14,wF),(15,yF),(17,wF),(18,wF),(19,yF)]]) [] 0 [] (t2 (aO c8 c8 c8 c8 eF eF eF (aJ eF eF eF)))
  ·obtain rfl:=Zaa h3
   exact af fol hE [.r [],.r [(1,{rs:=[.one (L.ptr x1),oI x2],st:=st3})],.r [(3,wF),(4,wF),(5,wF),(6,yF),(8,wF),(9,wF),(10,wF),(11,yF),(13,wF),(14,wF),(15,yF),(17,wF),(18,wF),(19,yF)]] [] 0 [] (t1 (aO c2 c2 c2 c2 eF eF eF (aN eF eF eF eF eF eF eF)))
noncomputable def Zak.B:Code:=Tryz.f196.body.getD .skip
noncomputable def Zak.rs (r:(List Int)):List CV:=[.agg [L.arr .u64 4 r]]
noncomputable def Zak.p4 (N:Nat) (c3_:(Int×(List Int))→Option (List Int)) (n_13 i_19:Int) (a_18 out_22:List Int):Option (List Int):=
 c3_ (w64 (i_19+1),out_22)
noncomputable def Zak.p3 (N:Nat) (n_13:Int) (a_18:List Int) (c3_:(Int×(List Int))→Option (List Int)):(Int×(List Int))→Option (List Int):=fun (i_19,out_21)=>
 if (decide (i_19<4))=true then
  if (decide (n_13>0))=true then
   chk (0≤i_19)<|
   chk (0≤(v64 (n_13)))<|
   if (decide (i_19>0))=true then
    chk (0≤(w64 (i_19-1)))<|
    chk ((w64 (i_19-1))<4)<|
    chk (0≤(v64 (w64 (64-n_13))))<|
    Zak.p4 N c3_ n_13 i_19 a_18 (List.set (List.set out_21 (Int.toNat i_19) (shlOf .u64 (List.getD a_18 (Int.toNat i_19) 0) (v64 (n_13)))) (Int.toNat i_19) (v64 ((List.getD (List.set out_21 (Int.toNat i_19) (shlOf .u64 (List.getD a_18 (Int.toNat i_19) 0) (v64 (n_13)))) (Int.toNat i_19) 0)+(shrOf .u64 (List.getD a_18 (Int.toNat (w64 (i_19-1))) 0) (v64 (w64 (64-n_13)))))))
   else
   Zak.p4 N c3_ n_13 i_19 a_18 (List.set out_21 (Int.toNat i_19) (shlOf .u64 (List.getD a_18 (Int.toNat i_19) 0) (v64 (n_13))))
  else
  chk (0≤i_19)<|
  chk (0≤(v64 (w64 (0-n_13))))<|
  if (decide (i_19<3))=true then
   chk (0≤(w64 (i_19+1)))<|
   chk ((w64 (i_19+1))<4)<|
   chk (0≤(v64 (w64 (64+n_13))))<|
   Zak.p4 N c3_ n_13 i_19 a_18 (List.set (List.set out_21 (Int.toNat i_19) (shrOf .u64 (List.getD a_18 (Int.toNat i_19) 0) (v64 (w64 (0-n_13))))) (Int.toNat i_19) (v64 ((List.getD (List.set out_21 (Int.toNat i_19) (shrOf .u64 (List.getD a_18 (Int.toNat i_19) 0) (v64 (w64 (0-n_13))))) (Int.toNat i_19) 0)+(shlOf .u64 (List.getD a_18 (Int.toNat (w64 (i_19+1))) 0) (v64 (w64 (64+n_13)))))))
  else
  Zak.p4 N c3_ n_13 i_19 a_18 (List.set out_21 (Int.toNat i_19) (shrOf .u64 (List.getD a_18 (Int.toNat i_19) 0) (v64 (w64 (0-n_13)))))
 else
 some out_21
noncomputable def Zak.p2 (N:Nat) (c2_:(Int×(List Int))→Option (List Int)):(Int×(List Int))→Option (List Int):=fun (n_13,a_18)=>
 if (decide (n_13≤(-64)))=true then
  c2_ (w64 (n_13+64),[List.getD a_18 1 0,List.getD a_18 2 0,List.getD a_18 3 0,0])
 else
 if (n_13==0)=true then
  some a_18
 else
 loopN (Zak.p3 N n_13 a_18) N (0,List.replicate 4 0)
noncomputable def Zak.p1 (N:Nat) (c1_:(Int×(List Int))→Option (List Int)):(Int×(List Int))→Option (List Int):=fun (n_1,a_12)=>
 if (decide (n_1≥64))=true then
  c1_ (w64 (n_1-64),[0,List.getD a_12 0 0,List.getD a_12 1 0,List.getD a_12 2 0])
 else
 loopN (Zak.p2 N) N (n_1,a_12)
noncomputable def Zak (N:Nat) (a_0_0:List Int) (n_1:Int):Option (List Int):=
 if (decide (n_1≤(-256)))=true then
  some (List.replicate 4 0)
 else
 if (decide (n_1≥256))=true then
  some (List.replicate 4 0)
 else
 loopN (Zak.p1 N) N (n_1,a_0_0)
noncomputable def Zak.p4.S (n_13 i_19:Int) (a_18 out_22:List Int) (st:LL):S:=mkS 96 [(1,sI n_13),(2,sA 2),(4,sA 4),(5,sA 5),(6,sI i_19)] [(2,.cells [L.arr .u64 4 a_18]),(4,.cells [L.arr .u64 4 (List.replicate 4 0)]),(5,.cells [L.arr .u64 4 out_22])] st
noncomputable def Zak.p3.S (n_13 i_19:Int) (a_18 out_21:List Int) (st:LL):S:=mkS 96 [(1,sI n_13),(2,sA 2),(4,sA 4),(5,sA 5),(6,sI i_19)] [(2,.cells [L.arr .u64 4 a_18]),(4,.cells [L.arr .u64 4 (List.replicate 4 0)]),(5,.cells [L.arr .u64 4 out_21])] st
noncomputable def Zak.p2.S (n_13:Int) (a_18:List Int) (st:LL):S:=mkS 96 [(1,sI n_13),(2,sA 2),(4,sA 4),(5,sA 5)] [(2,.cells [L.arr .u64 4 a_18]),(4,.cells [L.arr .u64 4 (List.replicate 4 0)]),(5,.cells [L.arr .u64 4 (List.replicate 4 0)])] st
noncomputable def Zak.p1.S (n_1:Int) (a_12:List Int) (st:LL):S:=mkS 96 [(1,sI n_1),(2,sA 2),(4,sA 4),(5,sA 5)] [(2,.cells [L.arr .u64 4 a_12]),(4,.cells [L.arr .u64 4 (List.replicate 4 0)]),(5,.cells [L.arr .u64 4 (List.replicate 4 0)])] st
theorem Zak.p4_ok {n_13 i_19 a_18 out_22 st r c3_ J3} (h:Zak.p4 N c3_ n_13 i_19 a_18 out_22=some r) (hE:En Tryz.f196 g0 w0 (Zak.rs r) st R) (hc3 : ∀i_19 out_21,c3_ (i_19,out_21)=some r→At g0 w0 (Zak.p3.S n_13 i_19 a_18 out_21 st) J3):At g0 w0 (Zak.p4.S n_13 i_19 a_18 out_22 st) (XK Tryz.prog R [.c (csub Zak.B [1,1,1,1,1,1,0,1,0,0,1,1]),.h J3,.b 4,.c (csub Zak.B [1,1,1,1,1,1,1])]):=by
 unfold Zak.p4 at h
 exact an fol [.r []] [1,2,4,5,6] [2,4,5] trivial (hc3 (w64 (i_19+1)) out_22 h)
theorem Zak.p3_ok {n_13 i_19 a_18 out_21 st r c3_ J3} (h:Zak.p3 N n_13 a_18 c3_ (i_19,out_21)=some r) (hE:En Tryz.f196 g0 w0 (Zak.rs r) st R) (hc3 : ∀i_19 out_21,c3_ (i_19,out_21)=some r→At g0 w0 (Zak.p3.S n_13 i_19 a_18 out_21 st) J3):At g0 w0 (Zak.p3.S n_13 i_19 a_18 out_21 st) (XK Tryz.prog R (.c (csub Zak.B [1,1,1,1,1,1,0,1,0,0]) :: .h J3 :: [.b 4,.c (csub Zak.B [1,1,1,1,1,1,1])])):=by
 unfold Zak.p3 at h
 refine iteB h (fun c111 h1=>?_) (fun c111 h2=>?_)
 ·let o1:List PS:=[.r [],.c true,.r []]
  refine iteB h1 (fun c112 h3=>?_) (fun c112 h4=>?_)
  ·obtain ⟨c113,c114,h5⟩:=ck2 h3
   have t1 {Q:Prop} (q:Q):=aO c111 c112 c113 (oD c111) c114 c113 (oD c111) q
   refine iteB h5 (fun c115 h6=>?_) (fun c115 h7=>?_)
   ·obtain ⟨c116,c117,c118,h8⟩:=ck3 h6
    exact aqd fol (o1 ++ [.c true,.r [],.r [],.c true,.d {ds:=[],hv:=16384,Hs:=[16384]},.s 4]) [1,2,4,5,6] [2,4,5] (t1 (aO c115 c113 (oD c111) c116 c117 c118 c113 (oD c111))) (Zak.p4_ok h8 hE hc3)
   ·exact aq fol (o1 ++ [.c true,.r [],.r [],.c false,.s 4]) [1,2,4,5,6] [2,4,5] (t1 c115) (Zak.p4_ok h7 hE hc3)
  ·obtain ⟨c119,c120,h9⟩:=ck2 h4
   have t2 {Q:Prop} (q:Q):=aO c111 c112 c119 (oD c111) c120 c119 (oD c111) q
   refine iteB h9 (fun c121 h10=>?_) (fun c121 h11=>?_)
   ·obtain ⟨c122,c123,c124,h12⟩:=ck3 h10
    exact aqd fol (o1 ++ [.c false,.r [],.r [],.c true,.d {ds:=[],hv:=16384,Hs:=[16384]},.s 4]) [1,2,4,5,6] [2,4,5] (t2 (aO c121 c119 (oD c111) c122 c123 c124 c119 (oD c111))) (Zak.p4_ok h12 hE hc3)
   ·exact aq fol (o1 ++ [.c false,.r [],.r [],.c false,.s 4]) [1,2,4,5,6] [2,4,5] (t2 c121) (Zak.p4_ok h11 hE hc3)
 ·obtain rfl:=Zaa h2
  exact af fol hE [.r [],.c false,.r []] [] 0 [] c111
theorem Zak.p2_ok {n_13 a_18 st r c2_ J2} (h:Zak.p2 N c2_ (n_13,a_18)=some r) (hE:En Tryz.f196 g0 w0 (Zak.rs r) st R) (hc2 : ∀n_13 a_18,c2_ (n_13,a_18)=some r→At g0 w0 (Zak.p2.S n_13 a_18 st) J2):At g0 w0 (Zak.p2.S n_13 a_18 st) (XK Tryz.prog R (.c (csub Zak.B [1,1,1,1,0,0,0]) :: .h J2 :: [.b 2,.c (csub Zak.B [1,1,1,1,1])])):=by
 unfold Zak.p2 at h
 refine iteB h (fun c95 h13=>?_) (fun c95 h14=>?_)
 ·exact an fol [.r [],.c true,.r [(6,{m:=3})],.r []] [1,2,4,5] [2,4,5] (aI c95 (ix 1 4 (ix 2 4 (aI (leI 0 3) (ltI 3 4))))) (hc2 (w64 (n_13+64)) [List.getD a_18 1 0,List.getD a_18 2 0,List.getD a_18 3 0,0] h13)
 ·refine iteB h14 (fun c96 h15=>?_) (fun c96 h16=>?_)
  ·obtain rfl:=Zaa h15
   exact af fol hE [.r [],.c false,.r [],.c true,.r []] [] 0 [] (aI c95 c96)
  ·exact aq fol [.r [],.c false,.r [],.c false,.r []] [1,2,4,5,6] [2,4,5] (aI c95 c96) (At.loop N (At.loopN (fun y:Int×(List Int)=>Zak.p3.S n_13 y.1 a_18 y.2 st) (fun c J hc y h=>Zak.p3_ok (i_19:=y.1) (out_21:=y.2) h hE (fun i_19 out_21=>hc (i_19,out_21))) N (0,List.replicate 4 0) h16))
theorem Zak.p1_ok {n_1 a_12 st r c1_ J1} (h:Zak.p1 N c1_ (n_1,a_12)=some r) (hE:En Tryz.f196 g0 w0 (Zak.rs r) st R) (hc1 : ∀n_1 a_12,c1_ (n_1,a_12)=some r→At g0 w0 (Zak.p1.S n_1 a_12 st) J1):At g0 w0 (Zak.p1.S n_1 a_12 st) (XK Tryz.prog R (.c (csub Zak.B [1,1,1,0,0,0]) :: .h J1 :: [.b 0,.c (csub Zak.B [1,1,1,1])])):=by
 unfold Zak.p1 at h
 refine iteB h (fun c64 h17=>?_) (fun c64 h18=>?_)
 ·exact an fol [.r [],.c true,.r [(6,{m:=3})],.r []] [1,2,4,5] [2,4,5] (aI c64 (ix 0 4 (ix 1 4 (aI (leI 0 2) (ltI 2 4))))) (hc1 (w64 (n_1-64)) [0,List.getD a_12 0 0,List.getD a_12 1 0,List.getD a_12 2 0] h17)
 ·exact aq fol [.r [],.c false] [1,2,4,5] [2,4,5] c64 (At.loop N (At.loopN (fun y:Int×(List Int)=>Zak.p2.S y.1 y.2 st) (fun c J hc y h=>Zak.p2_ok (n_13:=y.1) (a_18:=y.2) h hE (fun n_13 a_18=>hc (n_13,a_18))) N (n_1,a_12) h18))
theorem Zak.snd {a_0_0:List Int} {n_1:Int} {r:(List Int)} (h:Zak N a_0_0 n_1=some r):SndQ Tryz.prog 196 [.agg [L.arr .u64 4 a_0_0],oI n_1] (Zak.rs r):=fun st=>
 sO Zak.B Tryz.func196 fun g0 w0 R hE=>by
  unfold Zak at h
  refine iteB h (fun c1 h19=>?_) (fun c1 h20=>?_)
  ·obtain rfl:=Zaa h19
   exact af fol hE [.r [],.r [],.r [(3,wF),(4,wF)],.c true,.r []] [] 0 [] (aK c1 c1 c1 eT)
  ·let o2:List PS:=[.r [],.r [],.r [(5,yF)]]
   refine iteB h20 (fun c2 h21=>?_) (fun c2 h22=>?_)
   ·obtain rfl:=Zaa h21
    exact af fol hE (o2 ++ [.c true,.r []]) [] 0 [] (aK c1 c1 c1 c2)
   ·exact aq fol (o2 ++ [.c false]) [1,2,4,5] [2,4,5] (aK c1 c1 c1 c2) (At.loop N (At.loopN (fun y:Int×(List Int)=>Zak.p1.S y.1 y.2 st) (fun c J hc y h=>Zak.p1_ok (n_1:=y.1) (a_12:=y.2) h hE (fun n_1 a_12=>hc (n_1,a_12))) N (n_1,a_0_0) h22))
noncomputable def Zaz.B:Code:=Tryz.f163.body.getD .skip
noncomputable def Zaz.rs (r:(List Int)×Bool×Bool):List CV:=[.agg [L.arr .u64 4 r.1],oB r.2.1,oB r.2.2]
noncomputable def Zaz.p1 (N:Nat) (bits_0:Int) (over_2:Bool) (x1:List Int):Option ((List Int)×Bool×Bool):=
 if (decide ((Int.tmod bits_0 8388608)>0))=true then
  some (x1,(Int.tmod (w64 (Int.tdiv bits_0 8388608)) 2)==1,over_2)
 else
 some (x1,false,over_2)
noncomputable def Zaz (N:Nat) (bits_0:Int):Option ((List Int)×Bool×Bool):=
 if (decide (bits_0<0))=true then
  some (List.replicate 4 0,false,false)
 else
 if (decide (bits_0>4294967295))=true then
  some (List.replicate 4 0,false,false)
 else
 optE (Zak N [v64 (Int.tmod bits_0 8388608),0,0,0] (w64 (8*(w64 ((w64 (Int.tdiv bits_0 16777216))-3))))) fun x1=>
 if (decide ((Int.tmod bits_0 8388608)>0))=true then
  if (decide ((w64 (Int.tdiv bits_0 16777216))>34))=true then
   Zaz.p1 N bits_0 true x1
  else
  if (decide ((Int.tmod bits_0 8388608)>255))=true then
   if (decide ((w64 (Int.tdiv bits_0 16777216))>33))=true then
    Zaz.p1 N bits_0 true x1
   else
   if (decide ((Int.tmod bits_0 8388608)>65535))=true then
    Zaz.p1 N bits_0 (decide ((w64 (Int.tdiv bits_0 16777216))>32)) x1
   else
   Zaz.p1 N bits_0 false x1
  else
  if (decide ((Int.tmod bits_0 8388608)>65535))=true then
   Zaz.p1 N bits_0 (decide ((w64 (Int.tdiv bits_0 16777216))>32)) x1
  else
  Zaz.p1 N bits_0 false x1
 else
 if (decide ((Int.tmod bits_0 8388608)>255))=true then
  if (decide ((w64 (Int.tdiv bits_0 16777216))>33))=true then
   Zaz.p1 N bits_0 true x1
  else
  if (decide ((Int.tmod bits_0 8388608)>65535))=true then
   Zaz.p1 N bits_0 (decide ((w64 (Int.tdiv bits_0 16777216))>32)) x1
  else
  Zaz.p1 N bits_0 false x1
 else
 if (decide ((Int.tmod bits_0 8388608)>65535))=true then
  Zaz.p1 N bits_0 (decide ((w64 (Int.tdiv bits_0 16777216))>32)) x1
 else
 Zaz.p1 N bits_0 false x1
noncomputable def Zaz.p1.S (bits_0:Int) (over_2:Bool) (x1:List Int) (st:LL):S:=mkS 61 [(2,sA 2),(6,sI (Int.tmod bits_0 8388608)),(7,.one (.l (L.bool ((Int.tmod (w64 (Int.tdiv bits_0 8388608)) 2)==1)))),(8,sA 8),(9,.one (.l (L.bool over_2)))] [(2,.cells [L.arr .u64 4 (List.replicate 4 0)]),(8,.cells [L.arr .u64 4 x1])] st
theorem Zaz.p1_ok {bits_0 over_2 x1 st r} (h:Zaz.p1 N bits_0 over_2 x1=some r) (hE:En Tryz.f163 g0 w0 (Zaz.rs r) st R):At g0 w0 (Zaz.p1.S bits_0 over_2 x1 st) (XK Tryz.prog R [.c (csub Zaz.B [1,1,1,1,1,1,1])]):=by
 unfold Zaz.p1 at h
 refine iteB h (fun c14 h1=>?_) (fun c14 h2=>?_)
 ·obtain rfl:=Zaa h1
  exact af fol hE [.r []] [] 0 [] (aI c14 c14)
 ·obtain rfl:=Zaa h2
  exact af fol hE [.r [(4,wF),(5,yF)]] [] 0 [] (aI c14 c14)
theorem Zaz.snd {bits_0:Int} {r:(List Int)×Bool×Bool} (h:Zaz N bits_0=some r):SndQ Tryz.prog 163 [oI bits_0] (Zaz.rs r):=fun st=>
 sO Zaz.B Tryz.func163 fun g0 w0 R hE=>by
  unfold Zaz at h
  refine iteB h (fun c1 h3=>?_) (fun c1 h4=>?_)
  ·obtain rfl:=Zaa h3
   exact af fol hE [.r [],.r [(3,wF),(4,wF)],.c true,.r []] [] 0 [] (aK c1 c1 c1 eT)
  ·let o1:List PS:=[.r [],.r [(5,yF)]]
   have t1 {Q:Prop} (q:Q):=aK c1 c1 c1 q
   refine iteB h4 (fun c2 h5=>?_) (fun c2 h6=>?_)
   ·obtain rfl:=Zaa h5
    exact af fol hE (o1 ++ [.c true,.r []]) [] 0 [] (t1 c2)
   ·obtain ⟨x1,c3,h7⟩:=Zac h6
    let o2:List PS:=o1 ++ [.c false,.r [],.r [],.r [],.r [(2,{m:=3}),(6,q1 [.agg [L.arr .u64 4 x1]])]]
    have t2 {Q:Prop} (q:Q):=t1 (aN c2 (neI 16777216) (neI 8388608) (neI 8388608) (neI 2) (Zak.snd c3) q)
    refine iteB h7 (fun c4 h8=>?_) (fun c4 h9=>?_)
    ·have t3 {Q:Prop} (q:Q):=t2 (aK c4 c4 c4 q)
     refine iteB h8 (fun c5 h10=>?_) (fun c5 h11=>?_)
     ·exact aq fol (o2 ++ [.r [(7,wF),(8,wF),(9,wF),(12,wF),(15,wF),(16,wF),(17,wF),(20,wF)],.s 1]) [2,6,7,8,9] [2,8] (t3 (aO c5 c5 c5 c5 c5 eT eT (aJ eT eT eT))) (Zaz.p1_ok h10 hE)
     ·have t4 {Q:Prop} (q:Q):=t3 (aK c5 c5 c5 q)
      refine iteB h11 (fun c6 h12=>?_) (fun c6 h13=>?_)
      ·refine iteB h12 (fun c7 h14=>?_) (fun c7 h15=>?_)
       ·exact aq fol (o2 ++ [.r [(13,yF),(15,wF),(16,wF),(17,wF),(20,wF)],.s 1]) [2,6,7,8,9] [2,8] (t4 (aO c6 c6 c5 c6 c5 c7 c7 (aJ c7 c7 c7))) (Zaz.p1_ok h14 hE)
       ·refine iteB h15 (fun c8 h16=>?_) (fun c8 h17=>?_)
        ·exact aq fol (o2 ++ [.r [(13,yF),(21,yF)],.s 1]) [2,6,7,8,9] [2,8] (t4 (aO c6 c6 c5 c6 c5 c7 c7 (aM c7 c8 c8 c7 c8 c7))) (Zaz.p1_ok h16 hE)
        ·exact aq fol (o2 ++ [.r [(13,yF),(18,wF),(19,wF),(20,yF),(21,yF)],.s 1]) [2,6,7,8,9] [2,8] (t4 (aO c6 c6 c5 c6 c5 c7 c7 (aM c7 c8 c8 c7 c8 c7))) (Zaz.p1_ok h17 hE)
      ·have t5 {Q:Prop} (q:Q):=t4 (aO c6 c6 c5 c6 c5 eF eF (aI eF q))
       refine iteB h13 (fun c9 h18=>?_) (fun c9 h19=>?_)
       ·exact aq fol (o2 ++ [.r [(10,wF),(11,wF),(12,yF),(13,yF),(21,yF)],.s 1]) [2,6,7,8,9] [2,8] (t5 (aL c9 c9 eF c9 eF)) (Zaz.p1_ok h18 hE)
       ·exact aq fol (o2 ++ [.r [(10,wF),(11,wF),(12,yF),(13,yF),(18,wF),(19,wF),(20,yF),(21,yF)],.s 1]) [2,6,7,8,9] [2,8] (t5 (aL c9 c9 eF c9 eF)) (Zaz.p1_ok h19 hE)
    ·have t6 {Q:Prop} (q:Q):=t2 (aN c4 c4 c4 eF eF eF q)
     refine iteB h9 (fun c10 h20=>?_) (fun c10 h21=>?_)
     ·have t7 {Q:Prop} (q:Q):=t6 (aM c10 c10 eF c10 eF q)
      refine iteB h20 (fun c11 h22=>?_) (fun c11 h23=>?_)
      ·exact aq fol (o2 ++ [.r [(3,wF),(4,wF),(5,yF),(13,yF),(15,wF),(16,wF),(17,wF),(20,wF)],.s 1]) [2,6,7,8,9] [2,8] (t7 (aL c11 c11 c11 c11 c11)) (Zaz.p1_ok h22 hE)
      ·refine iteB h23 (fun c12 h24=>?_) (fun c12 h25=>?_)
       ·exact aq fol (o2 ++ [.r [(3,wF),(4,wF),(5,yF),(13,yF),(21,yF)],.s 1]) [2,6,7,8,9] [2,8] (t7 (aO c11 c11 c11 c12 c12 c11 c12 c11)) (Zaz.p1_ok h24 hE)
       ·exact aq fol (o2 ++ [.r [(3,wF),(4,wF),(5,yF),(13,yF),(18,wF),(19,wF),(20,yF),(21,yF)],.s 1]) [2,6,7,8,9] [2,8] (t7 (aO c11 c11 c11 c12 c12 c11 c12 c11)) (Zaz.p1_ok h25 hE)
     ·have t8 {Q:Prop} (q:Q):=t6 (aO c10 c10 eF c10 eF eF eF (aI eF q))
      refine iteB h21 (fun c13 h26=>?_) (fun c13 h27=>?_)
      ·exact aq fol (o2 ++ [.r [(3,wF),(4,wF),(5,yF),(10,wF),(11,wF),(12,yF),(13,yF),(21,yF)],.s 1]) [2,6,7,8,9] [2,8] (t8 (aL c13 c13 eF c13 eF)) (Zaz.p1_ok h26 hE)
      ·exact aq fol (o2 ++ [.r [(3,wF),(4,wF),(5,yF),(10,wF),(11,wF),(12,yF),(13,yF),(18,wF),(19,wF),(20,yF),(21,yF)],.s 1]) [2,6,7,8,9] [2,8] (t8 (aL c13 c13 eF c13 eF)) (Zaz.p1_ok h27 hE)
noncomputable def Zcn.B:Code:=Tryz.f119.body.getD .skip
noncomputable def Zcn.rs (r:Int):List CV:=[oI r]
noncomputable def Zcn (N:Nat) (a_0_0:List Int) (i_1:Int):Option Int:=
 if (decide (i_1<0))=true then
  some 0
 else
 if (decide (i_1>255))=true then
  some 0
 else
 chk (0≤(w64 (Int.tdiv i_1 64)))<|
 chk ((w64 (Int.tdiv i_1 64))<4)<|
 chk (0≤(v64 (Int.tmod i_1 64)))<|
 some (w64 (Int.tmod (shrOf .u64 (List.getD a_0_0 (Int.toNat (w64 (Int.tdiv i_1 64))) 0) (v64 (Int.tmod i_1 64))) 2))
theorem Zcn.snd {a_0_0:List Int} {i_1:Int} {r:Int} (h:Zcn N a_0_0 i_1=some r):SndQ Tryz.prog 119 [.agg [L.arr .u64 4 a_0_0],oI i_1] (Zcn.rs r):=fun st=>
 sO Zcn.B Tryz.func119 fun g0 w0 R hE=>by
  unfold Zcn at h
  refine iteB h (fun c1 h1=>?_) (fun c1 h2=>?_)
  ·obtain rfl:=Zaa h1
   exact af fol hE [.r [],.r [(3,wF),(4,wF)],.c true,.r []] [] 0 [] (aK c1 c1 c1 eT)
  ·refine iteB h2 (fun c2 h3=>?_) (fun c2 h4=>?_)
   ·obtain rfl:=Zaa h3
    exact af fol hE [.r [],.r [(5,yF)],.c true,.r []] [] 0 [] (aK c1 c1 c1 c2)
   ·obtain ⟨c3,c4,c5,h5⟩:=ck3 h4
    obtain rfl:=Zaa h5
    exact af fol hE [.r [],.r [(5,yF)],.c false,.r []] [] 0 [] (aO c1 c1 c1 c2 (neI 64) c3 c4 (aJ (neI 64) c5 (neI 2)))
noncomputable def Zbs.B:Code:=Tryz.f65.body.getD .skip
noncomputable def Zbs.rs (r:Bool):List CV:=[oB r]
noncomputable def Zbs.p1 (N:Nat) (a_0_0 b_1_0:List Int) (c1_:Int→Option Bool):Int→Option Bool:=fun i_1=>
 if (decide (i_1≥0))=true then
  optE (Zcn N a_0_0 i_1) fun x2=>
  optE (Zcn N b_1_0 i_1) fun x3=>
  if (x2 != x3)=true then
   some (decide (x2<x3))
  else
  c1_ (w64 (i_1-1))
 else
 some false
noncomputable def Zbs (N:Nat) (a_0_0 b_1_0:List Int):Option Bool:=
 loopN (Zbs.p1 N a_0_0 b_1_0) N 255
noncomputable def Zbs.p1.S (i_1:Int) (a_0_0 b_1_0:List Int) (st:LL):S:=mkS 24 [(2,sA 2),(3,sA 3),(5,sI i_1)] [(2,.cells [L.arr .u64 4 a_0_0]),(3,.cells [L.arr .u64 4 b_1_0])] st
theorem Zbs.p1_ok {i_1 a_0_0 b_1_0 st r c1_ J1} (h:Zbs.p1 N a_0_0 b_1_0 c1_ i_1=some r) (hE:En Tryz.f65 g0 w0 (Zbs.rs r) st R) (hc1 : ∀i_1,c1_ i_1=some r→At g0 w0 (Zbs.p1.S i_1 a_0_0 b_1_0 st) J1):At g0 w0 (Zbs.p1.S i_1 a_0_0 b_1_0 st) (XK Tryz.prog R (.c (csub Zbs.B [1,0,1,0,0]) :: .h J1 :: [.b 0,.c (csub Zbs.B [1,1])])):=by
 unfold Zbs.p1 at h
 refine iteB h (fun c1 h1=>?_) (fun c1 h2=>?_)
 ·obtain ⟨x2,c2,h3⟩:=Zac h1
  obtain ⟨x3,c3,h4⟩:=Zac h3
  let o1:List PS:=[.r [],.c true,.d {ds:=[(2,q1 [oI x2]),(5,q1 [oI x3])],hv:=0,Hs:=[]}]
  have t1 {Q:Prop} (q:Q):=aK c1 (Zcn.snd c2) (Zcn.snd c3) q
  refine iteB h4 (fun c4 h5=>?_) (fun c4 h6=>?_)
  ·obtain rfl:=Zaa h5
   exact afd fol hE (o1 ++ [.c true,.d {ds:=[(2,q1 [oI x2]),(5,q1 [oI x3])],hv:=0,Hs:=[]}]) [] 0 [] (t1 (aJ c4 (Zcn.snd c2) (Zcn.snd c3)))
  ·exact and_ fol (o1 ++ [.c false,.r []]) [2,3,5] [2,3] (t1 c4) (hc1 (w64 (i_1-1)) h6)
 ·obtain rfl:=Zaa h2
  exact af fol hE [.r [],.c false,.r []] [] 0 [] c1
theorem Zbs.snd {a_0_0 b_1_0:List Int} {r:Bool} (h:Zbs N a_0_0 b_1_0=some r):SndQ Tryz.prog 65 [.agg [L.arr .u64 4 a_0_0],.agg [L.arr .u64 4 b_1_0]] (Zbs.rs r):=fun st=>
 sO Zbs.B Tryz.func65 fun g0 w0 R hE=>by
  unfold Zbs at h
  exact aq fol [.r [],.r []] [2,3,5] [2,3] trivial (At.loop N (At.loopN (fun y:Int=>Zbs.p1.S y a_0_0 b_1_0 st) (fun c J hc y h=>Zbs.p1_ok h hE (fun i_1=>hc i_1)) N 255 h))
noncomputable def Zcl.B:Code:=Tryz.f172.body.getD .skip
noncomputable def Zcl.rs (r:(List Int)×Bool):List CV:=[.agg [L.arr .u64 4 r.1],oB r.2]
noncomputable def Zcl (N:Nat) (bits_0 limit_1:Int):Option ((List Int)×Bool):=
 optE (Zaz N bits_0) fun (x1,x2,x3)=>
 optE (Zaz N limit_1) fun (x4,x5,x6)=>
 if x2=true then
  some (List.replicate 4 0,false)
 else
 if x3=true then
  some (List.replicate 4 0,false)
 else
 if x5=true then
  some (List.replicate 4 0,false)
 else
 if x6=true then
  some (List.replicate 4 0,false)
 else
 if (x1==(List.replicate 4 0))=true then
  some (List.replicate 4 0,false)
 else
 optE (Zbs N x4 x1) fun x7=>
 if x7=true then
  some (List.replicate 4 0,false)
 else
 some (x1,true)
theorem Zcl.snd {bits_0 limit_1:Int} {r:(List Int)×Bool} (h:Zcl N bits_0 limit_1=some r):SndQ Tryz.prog 172 [oI bits_0,oI limit_1] (Zcl.rs r):=fun st=>
 sO Zcl.B Tryz.func172 fun g0 w0 R hE=>by
  unfold Zcl at h
  obtain ⟨⟨x1,x2,x3⟩,c1,h1⟩:=Zac h
  obtain ⟨⟨x4,x5,x6⟩,c2,h2⟩:=Zac h1
  let o1:List PS:=[.r [],.r [(1,q1 [.agg [L.arr .u64 4 x1],oB x2,oB x3])],.r [(1,q1 [.agg [L.arr .u64 4 x4],oB x5,oB x6])]]
  have t1 {Q:Prop} (q:Q):=aJ (Zaz.snd c1) (Zaz.snd c2) q
  refine iteB h2 (fun c3 h3=>?_) (fun c3 h4=>?_)
  ·obtain rfl:=Zaa h3
   exact af fol hE (o1 ++ [.r [(2,wF),(5,wF),(8,wF),(11,wF),(12,wF),(13,wF),(16,wF),(17,wF),(18,wF)],.c true,.r []]) [] 0 [] (t1 (aO c3 c3 eT eT eT eT eT (aO eT eT eT eT eT eT eT eT)))
  ·refine iteB h4 (fun c4 h5=>?_) (fun c4 h6=>?_)
   ·obtain rfl:=Zaa h5
    exact af fol hE (o1 ++ [.r [(3,yF),(5,wF),(8,wF),(11,wF),(12,wF),(13,wF),(16,wF),(17,wF),(18,wF)],.c true,.r []]) [] 0 [] (t1 (aO c3 c3 c4 c4 eT eT eT (aO eT eT eT eT eT eT eT eT)))
   ·have t2 {Q:Prop} (q:Q):=t1 (aL c3 c3 c4 c4 q)
    refine iteB h6 (fun c5 h7=>?_) (fun c5 h8=>?_)
    ·obtain rfl:=Zaa h7
     exact af fol hE (o1 ++ [.r [(3,yF),(6,yF),(8,wF),(11,wF),(12,wF),(13,wF),(16,wF),(17,wF),(18,wF)],.c true,.r []]) [] 0 [] (t2 (aO c5 c5 eT eT eT eT eT (aK eT eT eT eT)))
    ·refine iteB h8 (fun c6 h9=>?_) (fun c6 h10=>?_)
     ·obtain rfl:=Zaa h9
      exact af fol hE (o1 ++ [.r [(3,yF),(6,yF),(9,yF),(11,wF),(12,wF),(13,wF),(16,wF),(17,wF),(18,wF)],.c true,.r []]) [] 0 [] (t2 (aO c5 c5 c6 c6 c6 c6 eT (aK eT eT eT eT)))
     ·have t3 {Q:Prop} (q:Q):=t2 (aN c5 c5 c6 c6 c6 c6 q)
      refine iteB h10 (fun c7 h11=>?_) (fun c7 h12=>?_)
      ·obtain rfl:=Zaa h11
       exact af fol hE (o1 ++ [.r [(3,yF),(6,yF),(9,yF),(14,yF),(16,wF),(17,wF),(18,wF)],.c true,.r []]) [] 0 [] (t3 (aL c7 c7 c7 c7 eT))
      ·obtain ⟨x7,c8,h13⟩:=Zac h12
       let o2:List PS:=o1 ++ [.r [(3,yF),(6,yF),(9,yF),(14,yF),(18,q1 [oB x7]),(19,yF)]]
       refine iteB h13 (fun c9 h14=>?_) (fun c9 h15=>?_)
       ·obtain rfl:=Zaa h14
        exact af fol hE (o2 ++ [.c true,.r []]) [] 0 [] (t3 (aM c7 c7 c7 (Zbs.snd c8) c7 c9))
       ·obtain rfl:=Zaa h15
        exact af fol hE (o2 ++ [.c false,.r []]) [] 0 [] (t3 (aM c7 c7 c7 (Zbs.snd c8) c7 c9))
noncomputable def ZcI.B:Code:=Tryz.f142.body.getD .skip
noncomputable def ZcI.rs (r:Bool):List CV:=[oB r]
noncomputable def ZcI (N:Nat) (p_0:Zag):Option Bool:=
 optE (Zcl N p_0.Limit p_0.Limit) fun (x1,x2)=>
 if x2=true then
  if (decide (p_0.Interval≥2))=true then
   if (decide (p_0.Interval≤64))=true then
    if (decide (p_0.Spacing≥1))=true then
     if (decide (p_0.Spacing≤10000))=true then
      if (decide (p_0.Future≥0))=true then
       some (decide (p_0.Future<4294967296))
      else
      some false
     else
     some false
    else
    some false
   else
   some false
  else
  some false
 else
 some false
theorem ZcI.snd {p_0:Zag} {r:Bool} (h:ZcI N p_0=some r):SndQ Tryz.prog 142 [.agg p_0.ls] (ZcI.rs r):=fun st=>
 sO ZcI.B Tryz.func142 fun g0 w0 R hE=>by
  unfold ZcI at h
  obtain ⟨⟨x1,x2⟩,c1,h1⟩:=Zac h
  let o1:List PS:=[.r [],.r [(4,q1 [.agg [L.arr .u64 4 x1],oB x2])]]
  have t1 {Q:Prop} (q:Q):=aI (Zcl.snd c1) q
  refine iteB h1 (fun c2 h2=>?_) (fun c2 h3=>?_)
  ·have t2 {Q:Prop} (q:Q):=t1 (aL c2 c2 c2 c2 q)
   refine iteB h2 (fun c3 h4=>?_) (fun c3 h5=>?_)
   ·have t3 {Q:Prop} (q:Q):=t2 (aL c3 c3 c3 c3 q)
    refine iteB h4 (fun c4 h6=>?_) (fun c4 h7=>?_)
    ·have t4 {Q:Prop} (q:Q):=t3 (aL c4 c4 c4 c4 q)
     refine iteB h6 (fun c5 h8=>?_) (fun c5 h9=>?_)
     ·refine iteB h8 (fun c6 h10=>?_) (fun c6 h11=>?_)
      ·refine iteB h10 (fun c7 h12=>?_) (fun c7 h13=>?_)
       ·obtain rfl:=Zaa h12
        exact af fol hE (o1 ++ [.r []]) [] 0 [] (t4 (aO c5 c5 c5 c5 c6 c6 c6 (aL c6 c7 c7 c7 c7)))
       ·obtain rfl:=Zaa h13
        exact af fol hE (o1 ++ [.r [(27,wF),(28,wF),(29,wF),(30,yF)]]) [] 0 [] (t4 (aO c5 c5 c5 c5 c6 c6 c6 (aL c6 c7 c7 c7 c7)))
      ·obtain rfl:=Zaa h11
       exact af fol hE (o1 ++ [.r [(22,wF),(23,wF),(24,wF),(25,yF),(27,wF),(28,wF),(29,wF),(30,yF)]]) [] 0 [] (t4 (aO c5 c5 c5 c5 c6 c6 c6 (aL c6 eF eF eF eF)))
     ·obtain rfl:=Zaa h9
      exact af fol hE (o1 ++ [.r [(17,wF),(18,wF),(19,wF),(20,yF),(22,wF),(23,wF),(24,wF),(25,yF),(27,wF),(28,wF),(29,wF),(30,yF)]]) [] 0 [] (t4 (aO c5 c5 c5 c5 eF eF eF (aL eF eF eF eF eF)))
    ·obtain rfl:=Zaa h7
     exact af fol hE (o1 ++ [.r [(12,wF),(13,wF),(14,wF),(15,yF),(17,wF),(18,wF),(19,wF),(20,yF),(22,wF),(23,wF),(24,wF),(25,yF),(27,wF),(28,wF),(29,wF),(30,yF)]]) [] 0 [] (t3 (aO c4 c4 c4 c4 eF eF eF (aO eF eF eF eF eF eF eF (aI eF eF))))
   ·obtain rfl:=Zaa h5
    exact af fol hE (o1 ++ [.r [(7,wF),(8,wF),(9,wF),(10,yF),(12,wF),(13,wF),(14,wF),(15,yF),(17,wF),(18,wF),(19,wF),(20,yF),(22,wF),(23,wF),(24,wF),(25,yF),(27,wF),(28,wF),(29,wF),(30,yF)]]) [] 0 [] (t2 (aO c3 c3 c3 c3 eF eF eF (aO eF eF eF eF eF eF eF (aM eF eF eF eF eF eF))))
  ·obtain rfl:=Zaa h3
   exact af fol hE (o1 ++ [.r [(2,wF),(3,wF),(4,wF),(5,yF),(7,wF),(8,wF),(9,wF),(10,yF),(12,wF),(13,wF),(14,wF),(15,yF),(17,wF),(18,wF),(19,wF),(20,yF),(22,wF),(23,wF),(24,wF),(25,yF),(27,wF),(28,wF),(29,wF),(30,yF)]]) [] 0 [] (t1 (aO c2 c2 c2 c2 eF eF eF (aO eF eF eF eF eF eF eF (aO eF eF eF eF eF eF eF (aJ eF eF eF)))))
noncomputable def ZcJ.B:Code:=Tryz.f99.body.getD .skip
noncomputable def ZcJ.rs (r:Bool):List CV:=[oB r]
noncomputable def ZcJ (N:Nat) (h_0:Zan):Option Bool:=
 if (decide (h_0.Version≥(-2147483648)))=true then
  if (decide (h_0.Version≤2147483647))=true then
   if (decide (h_0.Time≥0))=true then
    if (decide (h_0.Time<4294967296))=true then
     if (decide (h_0.Bits≥0))=true then
      if (decide (h_0.Bits<4294967296))=true then
       if (decide (h_0.Nonce≥0))=true then
        some (decide (h_0.Nonce<4294967296))
       else
       some false
      else
      some false
     else
     some false
    else
    some false
   else
   some false
  else
  some false
 else
 some false
theorem ZcJ.snd {h_0:Zan} {r:Bool} (h:ZcJ N h_0=some r):SndQ Tryz.prog 99 [.agg h_0.ls] (ZcJ.rs r):=fun st=>
 sO ZcJ.B Tryz.func99 fun g0 w0 R hE=>by
  unfold ZcJ at h
  let o1:List PS:=[.r [],.r []]
  refine iteB h (fun c1 h1=>?_) (fun c1 h2=>?_)
  ·have t1 {Q:Prop} (q:Q):=aL c1 c1 c1 c1 q
   refine iteB h1 (fun c2 h3=>?_) (fun c2 h4=>?_)
   ·have t2 {Q:Prop} (q:Q):=t1 (aL c2 c2 c2 c2 q)
    refine iteB h3 (fun c3 h5=>?_) (fun c3 h6=>?_)
    ·have t3 {Q:Prop} (q:Q):=t2 (aM c3 c3 c3 c3 c3 q)
     refine iteB h5 (fun c4 h7=>?_) (fun c4 h8=>?_)
     ·have t4 {Q:Prop} (q:Q):=t3 (aL c4 c4 c4 c4 q)
      refine iteB h7 (fun c5 h9=>?_) (fun c5 h10=>?_)
      ·refine iteB h9 (fun c6 h11=>?_) (fun c6 h12=>?_)
       ·refine iteB h11 (fun c7 h13=>?_) (fun c7 h14=>?_)
        ·obtain rfl:=Zaa h13
         exact af fol hE (o1 ++ [.r []]) [] 0 [] (t4 (aO c5 c5 c5 c5 c5 c6 c6 (aN c6 c6 c7 c7 c7 c7 c7)))
        ·obtain rfl:=Zaa h14
         exact af fol hE (o1 ++ [.r [(36,wF),(37,wF),(38,wF),(39,wF),(40,yF)]]) [] 0 [] (t4 (aO c5 c5 c5 c5 c5 c6 c6 (aN c6 c6 c7 c7 c7 c7 c7)))
       ·obtain rfl:=Zaa h12
        exact af fol hE (o1 ++ [.r [(31,wF),(32,wF),(33,wF),(34,yF),(36,wF),(37,wF),(38,wF),(39,wF),(40,yF)]]) [] 0 [] (t4 (aO c5 c5 c5 c5 c5 c6 c6 (aN c6 c6 eF eF eF eF eF)))
      ·obtain rfl:=Zaa h10
       exact af fol hE (o1 ++ [.r [(25,wF),(26,wF),(27,wF),(28,wF),(29,yF),(31,wF),(32,wF),(33,wF),(34,yF),(36,wF),(37,wF),(38,wF),(39,wF),(40,yF)]]) [] 0 [] (t4 (aO c5 c5 c5 c5 c5 eF eF (aN eF eF eF eF eF eF eF)))
     ·obtain rfl:=Zaa h8
      exact af fol hE (o1 ++ [.r [(20,wF),(21,wF),(22,wF),(23,yF),(25,wF),(26,wF),(27,wF),(28,wF),(29,yF),(31,wF),(32,wF),(33,wF),(34,yF),(36,wF),(37,wF),(38,wF),(39,wF),(40,yF)]]) [] 0 [] (t3 (aO c4 c4 c4 c4 eF eF eF (aO eF eF eF eF eF eF eF (aK eF eF eF eF))))
    ·obtain rfl:=Zaa h6
     exact af fol hE (o1 ++ [.r [(14,wF),(15,wF),(16,wF),(17,wF),(18,yF),(20,wF),(21,wF),(22,wF),(23,yF),(25,wF),(26,wF),(27,wF),(28,wF),(29,yF),(31,wF),(32,wF),(33,wF),(34,yF),(36,wF),(37,wF),(38,wF),(39,wF),(40,yF)]]) [] 0 [] (t2 (aO c3 c3 c3 c3 c3 eF eF (aO eF eF eF eF eF eF eF (aO eF eF eF eF eF eF eF (aI eF eF)))))
   ·obtain rfl:=Zaa h4
    exact af fol hE (o1 ++ [.r [(9,wF),(10,wF),(11,wF),(12,yF),(14,wF),(15,wF),(16,wF),(17,wF),(18,yF),(20,wF),(21,wF),(22,wF),(23,yF),(25,wF),(26,wF),(27,wF),(28,wF),(29,yF),(31,wF),(32,wF),(33,wF),(34,yF),(36,wF),(37,wF),(38,wF),(39,wF),(40,yF)]]) [] 0 [] (t1 (aO c2 c2 c2 c2 eF eF eF (aO eF eF eF eF eF eF eF (aO eF eF eF eF eF eF eF (aM eF eF eF eF eF eF)))))
  ·obtain rfl:=Zaa h2
   exact af fol hE (o1 ++ [.r [(4,wF),(5,wF),(6,wF),(7,yF),(9,wF),(10,wF),(11,wF),(12,yF),(14,wF),(15,wF),(16,wF),(17,wF),(18,yF),(20,wF),(21,wF),(22,wF),(23,yF),(25,wF),(26,wF),(27,wF),(28,wF),(29,yF),(31,wF),(32,wF),(33,wF),(34,yF),(36,wF),(37,wF),(38,wF),(39,wF),(40,yF)]]) [] 0 [] (aO c1 c1 c1 c1 eF eF eF (aO eF eF eF eF eF eF eF (aO eF eF eF eF eF eF eF (aO eF eF eF eF eF eF eF (aJ eF eF eF)))))
noncomputable def ZaM.B:Code:=Tryz.f83.body.getD .skip
noncomputable def ZaM.rs (r:Bool):List CV:=[oB r]
noncomputable def ZaM.p2 (N:Nat) (p_0:Zag) (c2_:(Int×Int)→Option Bool):(Int×Int)→Option Bool:=fun (last_6,v7)=>
 if (decide (v7<(len p_0.Checks)))=true then
  chk (0≤v7)<|
  getE (p_0.Checks[Int.toNat v7]?) ZcW fun x8=>
  if (decide (x8.Height≤last_6))=true then
   some false
  else
  c2_ (x8.Height,w64 (v7+1))
 else
 some true
noncomputable def ZaM.p1 (N:Nat) (p_0:Zag) (c1_:(Int×Int)→Option Bool):(Int×Int)→Option Bool:=fun (last_3,v4)=>
 if (decide (v4<(len p_0.Gates)))=true then
  chk (0≤v4)<|
  getE (p_0.Gates[Int.toNat v4]?) Zdi fun x5=>
  if (decide (x5.Height≤last_3))=true then
   some false
  else
  c1_ (x5.Height,w64 (v4+1))
 else
 loopN (ZaM.p2 N p_0) N (0,0)
noncomputable def ZaM (N:Nat) (p_0:Zag):Option Bool:=
 optE (ZcI N p_0) fun x1=>
 if (!x1)=true then
  some false
 else
 optE (ZcJ N p_0.Genesis) fun x2=>
 if (!x2)=true then
  some false
 else
 loopN (ZaM.p1 N p_0) N ((-1),0)
noncomputable def ZaM.p2.S (last_6:Int) (p_0:Zag) (v7:Int) (st:LL):S:=mkS 45 [(3,sI last_6),(32,sV 33 p_0.Checks),(33,sI (len p_0.Checks)),(34,sI v7)] [] st
noncomputable def ZaM.p1.S (last_3:Int) (p_0:Zag) (v4:Int) (st:LL):S:=mkS 45 [(1,sA 1),(3,sI last_3),(18,sV 2 p_0.Gates),(19,sI (len p_0.Gates)),(20,sI v4)] [(1,.cells p_0.ls)] st
theorem ZaM.p2_ok {last_6 p_0 v7 st r c2_ J2} (h:ZaM.p2 N p_0 c2_ (last_6,v7)=some r) (hE:En Tryz.f83 g0 w0 (ZaM.rs r) st R) (hc2 : ∀last_6 v7,c2_ (last_6,v7)=some r→At g0 w0 (ZaM.p2.S last_6 p_0 v7 st) J2):At g0 w0 (ZaM.p2.S last_6 p_0 v7 st) (XK Tryz.prog R (.c (csub ZaM.B [1,1,1,1,1,0,1,0,0]) :: .h J2 :: [.b 2,.c (csub ZaM.B [1,1,1,1,1,1])])):=by
 unfold ZaM.p2 at h
 refine iteB h (fun c9 h1=>?_) (fun c9 h2=>?_)
 ·obtain ⟨c10,h3⟩:=ZaU h1
  obtain ⟨x8,c11,h4⟩:=Zdo h3
  let o1:List PS:=[.r [],.c true,.r [(1,{oe:=x8.ls})],.r []]
  refine iteB h4 (fun c12 h5=>?_) (fun c12 h6=>?_)
  ·obtain rfl:=Zaa h5
   exact af fol hE (o1 ++ [.c true,.r []]) [] 0 [] (aL c9 c10 (oD c9) c11 c12)
  ·exact an fol (o1 ++ [.c false,.r [],.r []]) [3,32,33,34] [] (aL c9 c10 (oD c9) c11 c12) (hc2 x8.Height (w64 (v7+1)) h6)
 ·obtain rfl:=Zaa h2
  exact af fol hE [.r [],.c false,.r []] [] 0 [] c9
theorem ZaM.p1_ok {last_3 p_0 v4 st r c1_ J1} (h:ZaM.p1 N p_0 c1_ (last_3,v4)=some r) (hE:En Tryz.f83 g0 w0 (ZaM.rs r) st R) (hc1 : ∀last_3 v4,c1_ (last_3,v4)=some r→At g0 w0 (ZaM.p1.S last_3 p_0 v4 st) J1):At g0 w0 (ZaM.p1.S last_3 p_0 v4 st) (XK Tryz.prog R (.c (csub ZaM.B [1,1,1,0,1,0,0]) :: .h J1 :: [.b 0,.c (csub ZaM.B [1,1,1,1])])):=by
 unfold ZaM.p1 at h
 refine iteB h (fun c5 h7=>?_) (fun c5 h8=>?_)
 ·obtain ⟨c6,h9⟩:=ZaU h7
  obtain ⟨x5,c7,h10⟩:=Zdt h9
  let o2:List PS:=[.r [],.c true,.r [(1,{oe:=x5.ls})],.r []]
  refine iteB h10 (fun c8 h11=>?_) (fun c8 h12=>?_)
  ·obtain rfl:=Zaa h11
   exact af fol hE (o2 ++ [.c true,.r []]) [] 0 [] (aL c5 c6 (oD c5) c7 c8)
  ·exact an fol (o2 ++ [.c false,.r [],.r []]) [1,3,18,19,20] [1] (aL c5 c6 (oD c5) c7 c8) (hc1 x5.Height (w64 (v4+1)) h12)
 ·exact aq fol [.r [],.c false,.r [],.r []] [3,32,33,34] [] c5 (At.loop N (At.loopN (fun y:Int×Int=>ZaM.p2.S y.1 p_0 y.2 st) (fun c J hc y h=>ZaM.p2_ok (last_6:=y.1) (v7:=y.2) h hE (fun last_6 v7=>hc (last_6,v7))) N (0,0) h8))
theorem ZaM.snd {p_0:Zag} {r:Bool} (h:ZaM N p_0=some r):SndQ Tryz.prog 83 [.agg p_0.ls] (ZaM.rs r):=fun st=>
 sO ZaM.B Tryz.func83 fun g0 w0 R hE=>by
  unfold ZaM at h
  obtain ⟨x1,c1,h13⟩:=Zac h
  have t1 {Q:Prop} (q:Q):=aI (ZcI.snd c1) q
  refine iteB h13 (fun c2 h14=>?_) (fun c2 h15=>?_)
  ·obtain rfl:=Zaa h14
   exact af fol hE [.r [],.r [(1,q1 [oB x1]),(4,wF),(5,wF),(6,wF),(7,wF)],.c true,.r []] [] 0 [] (t1 (aM (not_false (ZbO c2)) (not_false (ZbO c2)) (not_false (ZbO c2)) (not_false (ZbO c2)) (not_false (ZbO c2)) eT))
  ·obtain ⟨x2,c3,h16⟩:=Zac h15
   let o3:List PS:=[.r [],.r [(1,q1 [oB x1]),(6,q1 [oB x2]),(8,yF)]]
   have t2 {Q:Prop} (q:Q):=t1 (aN (not_true (ZbP c2)) (not_true (ZbP c2)) (not_true (ZbP c2)) (ZcJ.snd c3) (not_true (ZbP c2)) (not_true (ZbP c2)) q)
   refine iteB h16 (fun c4 h17=>?_) (fun c4 h18=>?_)
   ·obtain rfl:=Zaa h17
    exact af fol hE (o3 ++ [.c true,.r []]) [] 0 [] (t2 c4)
   ·exact aq fol (o3 ++ [.c false,.r [],.r []]) [1,3,18,19,20] [1] (t2 c4) (At.loop N (At.loopN (fun y:Int×Int=>ZaM.p1.S y.1 p_0 y.2 st) (fun c J hc y h=>ZaM.p1_ok (last_3:=y.1) (v4:=y.2) h hE (fun last_3 v4=>hc (last_3,v4))) N ((-1),0) h18))
noncomputable def Zbe.B:Code:=Tryz.f22.body.getD .skip
noncomputable def Zbe.rs (r:Bool):List CV:=[oB r]
noncomputable def Zbe.p1 (N:Nat) (list_1:LL) (p_0:Zag) (c1_:Int→Option Bool):Int→Option Bool:=fun v1=>
 if (decide (v1<(len list_1)))=true then
  chk (0≤v1)<|
  getE (list_1[Int.toNat v1]?) Zci fun x2=>
  if (decide (x2.Now<0))=true then
   some true
  else
  c1_ (w64 (v1+1))
 else
 if (decide ((len p_0.Gates)>20))=true then
  some true
 else
 if (decide ((len p_0.Checks)>20))=true then
  some true
 else
 if (decide ((len list_1)>40))=true then
  some true
 else
 optE (ZaM N p_0) fun x3=>
 some (!x3)
noncomputable def Zbe (N:Nat) (p_0:Zag) (list_1:LL):Option Bool:=
 loopN (Zbe.p1 N list_1 p_0) N 0
noncomputable def Zbe.p1.S (list_1:LL) (v1:Int) (p_0:Zag) (st:LL):S:=mkS 37 [(1,sV 69 list_1),(2,sA 2),(7,sV 69 list_1),(8,sI (len list_1)),(9,sI v1)] [(2,.cells p_0.ls)] st
theorem Zbe.p1_ok {list_1 v1 p_0 st r c1_ J1} (h:Zbe.p1 N list_1 p_0 c1_ v1=some r) (hE:En Tryz.f22 g0 w0 (Zbe.rs r) st R) (hc1 : ∀v1,c1_ v1=some r→At g0 w0 (Zbe.p1.S list_1 v1 p_0 st) J1):At g0 w0 (Zbe.p1.S list_1 v1 p_0 st) (XK Tryz.prog R (.c (csub Zbe.B [1,0,1,0,0]) :: .h J1 :: [.b 0,.c (csub Zbe.B [1,1])])):=by
 unfold Zbe.p1 at h
 refine iteB h (fun c1 h1=>?_) (fun c1 h2=>?_)
 ·obtain ⟨c2,h3⟩:=ZaU h1
  obtain ⟨x2,c3,h4⟩:=Zdg h3
  let o1:List PS:=[.r [],.c true,.r [(1,{oe:=x2.ls})],.r []]
  refine iteB h4 (fun c4 h5=>?_) (fun c4 h6=>?_)
  ·obtain rfl:=Zaa h5
   exact af fol hE (o1 ++ [.c true,.r []]) [] 0 [] (aL c1 c2 (oD c1) c3 c4)
  ·exact an fol (o1 ++ [.c false,.r []]) [1,2,7,8,9] [2] (aL c1 c2 (oD c1) c3 c4) (hc1 (w64 (v1+1)) h6)
 ·let o2:List PS:=[.r [],.c false]
  refine iteB h2 (fun c5 h7=>?_) (fun c5 h8=>?_)
  ·obtain rfl:=Zaa h7
   exact af fol hE (o2 ++ [.r [(5,wF),(6,wF),(7,wF),(8,wF),(11,wF),(12,wF),(13,wF),(16,wF),(17,wF),(18,wF)]]) [] 0 [] (aO c1 c5 c5 c5 c5 c5 eT (aN eT eT eT eT eT eT eT))
  ·have t1 {Q:Prop} (q:Q):=aN c1 c5 c5 c5 c5 c5 q
   refine iteB h8 (fun c6 h9=>?_) (fun c6 h10=>?_)
   ·obtain rfl:=Zaa h9
    exact af fol hE (o2 ++ [.r [(9,yF),(11,wF),(12,wF),(13,wF),(16,wF),(17,wF),(18,wF)]]) [] 0 [] (t1 (aO c6 c6 c6 c6 eT eT eT eT))
   ·refine iteB h10 (fun c7 h11=>?_) (fun c7 h12=>?_)
    ·obtain rfl:=Zaa h11
     exact af fol hE (o2 ++ [.r [(9,yF),(14,yF),(16,wF),(17,wF),(18,wF)]]) [] 0 [] (t1 (aO c6 c6 c6 c6 c7 c7 c7 c7))
    ·obtain ⟨x3,c8,h13⟩:=Zac h12
     obtain rfl:=Zaa h13
     exact af fol hE (o2 ++ [.r [(9,yF),(14,yF),(17,q1 [oB x3]),(19,yF)]]) [] 0 [] (t1 (aO c6 c6 c6 c6 c7 c7 (ZaM.snd c8) (aI c7 c7)))
theorem Zbe.snd {p_0:Zag} {list_1:LL} {r:Bool} (h:Zbe N p_0 list_1=some r):SndQ Tryz.prog 22 [.agg p_0.ls,.one (L.sl 69 list_1)] (Zbe.rs r):=fun st=>
 sO Zbe.B Tryz.func22 fun g0 w0 R hE=>by
  unfold Zbe at h
  exact aq fol [.r [],.r []] [1,2,7,8,9] [2] trivial (At.loop N (At.loopN (fun y:Int=>Zbe.p1.S list_1 y p_0 st) (fun c J hc y h=>Zbe.p1_ok h hE (fun v1=>hc v1)) N 0 h))
noncomputable def Zdd.B:Code:=Tryz.f213.body.getD .skip
noncomputable def Zdd.rs (r:Int):List CV:=[oI r]
noncomputable def Zdd (N:Nat) (p_0:Zag) (from_1 to_2:Int):Option Int:=
 some (if (w64 ((w64 (p_0.Interval*p_0.Spacing))*4))<(if (w64 (Int.tdiv (w64 (p_0.Interval*p_0.Spacing)) 4))>(w64 (to_2-from_1)) then (w64 (Int.tdiv (w64 (p_0.Interval*p_0.Spacing)) 4)) else (w64 (to_2-from_1))) then (w64 ((w64 (p_0.Interval*p_0.Spacing))*4)) else (if (w64 (Int.tdiv (w64 (p_0.Interval*p_0.Spacing)) 4))>(w64 (to_2-from_1)) then (w64 (Int.tdiv (w64 (p_0.Interval*p_0.Spacing)) 4)) else (w64 (to_2-from_1))))
theorem Zdd.snd {p_0:Zag} {from_1 to_2:Int} {r:Int} (h:Zdd N p_0 from_1 to_2=some r):SndQ Tryz.prog 213 [.agg p_0.ls,oI from_1,oI to_2] (Zdd.rs r):=fun st=>
 sO Zdd.B Tryz.func213 fun g0 w0 R hE=>by
  unfold Zdd at h
  obtain rfl:=Zaa h
  exact af fol hE [.r [],.r [],.r []] [] 0 [] (neI 4)
noncomputable def Zbc.B:Code:=Tryz.f238.body.getD .skip
noncomputable def Zbc.rs (r:Int):List CV:=[oI r]
noncomputable def Zbc (N:Nat) (x_0:Int):Option Int:=
 optE (Zap N x_0) fun x1=>
 some (w64 (64-x1))
theorem Zbc.snd {x_0:Int} {r:Int} (h:Zbc N x_0=some r):SndQ Tryz.prog 238 [.one (L.int .u64 x_0)] (Zbc.rs r):=fun st=>
 sO Zbc.B Tryz.func238 fun g0 w0 R hE=>by
  unfold Zbc at h
  obtain ⟨x1,c1,h1⟩:=Zac h
  obtain rfl:=Zaa h1
  exact af fol hE [.r [],.r [(1,q1 [oI x1])]] [] 0 [] (Zap.snd c1)
noncomputable def Zae.B:Code:=Tryz.f225.body.getD .skip
noncomputable def Zae.rs (r:Int×Int):List CV:=[.one (L.int .u64 r.1),.one (L.int .u64 r.2)]
noncomputable def Zae.p6 (N:Nat) (y_2 x1 lo_1 q1_4 hi_0 q0_7:Int):Option (Int×Int):=
 chk (0≤(v64 (x1)))<|
 some (v64 ((v64 (q1_4*4294967296))+q0_7),shrOf .u64 (v64 ((v64 ((v64 ((v64 ((v64 ((v64 ((bitsOf .or .u64 (shlOf .u64 hi_0 (v64 (x1))) (shrOf .u64 lo_1 (v64 (64-(v64 (x1))))))*4294967296))+(shrOf .u64 (shlOf .u64 lo_1 (v64 (x1))) 32)))-(v64 (q1_4*(shlOf .u64 y_2 (v64 (x1)))))))*4294967296))+(bitsOf .and .u64 (shlOf .u64 lo_1 (v64 (x1))) 4294967295)))-(v64 (q0_7*(shlOf .u64 y_2 (v64 (x1))))))) (v64 (x1)))
noncomputable def Zae.p5 (N:Nat) (c4_:(Int×Int)→Option (Int×Int)) (y_2 x1 lo_1 q1_4 rhat_5 hi_0 q0_6:Int):Option (Int×Int):=
 if (decide ((v64 (rhat_5+(shrOf .u64 (shlOf .u64 y_2 (v64 (x1))) 32)))≥4294967296))=true then
  Zae.p6 N y_2 x1 lo_1 q1_4 hi_0 (v64 (q0_6-1))
 else
 c4_ (v64 (rhat_5+(shrOf .u64 (shlOf .u64 y_2 (v64 (x1))) 32)),v64 (q0_6-1))
noncomputable def Zae.p4 (N:Nat) (y_2 x1 lo_1 q1_4 hi_0:Int) (c4_:(Int×Int)→Option (Int×Int)):(Int×Int)→Option (Int×Int):=fun (rhat_5,q0_6)=>
 if (decide (q0_6≥4294967296))=true then
  Zae.p5 N c4_ y_2 x1 lo_1 q1_4 rhat_5 hi_0 q0_6
 else
 if (decide ((v64 (q0_6*(bitsOf .and .u64 (shlOf .u64 y_2 (v64 (x1))) 4294967295)))>(v64 ((v64 (4294967296*rhat_5))+(bitsOf .and .u64 (shlOf .u64 lo_1 (v64 (x1))) 4294967295)))))=true then
  Zae.p5 N c4_ y_2 x1 lo_1 q1_4 rhat_5 hi_0 q0_6
 else
 Zae.p6 N y_2 x1 lo_1 q1_4 hi_0 q0_6
noncomputable def Zae.p3 (N:Nat) (y_2 x1 hi_0 lo_1 q1_4:Int):Option (Int×Int):=
 chk ((shrOf .u64 (shlOf .u64 y_2 (v64 (x1))) 32)≠0)<|
 loopN (Zae.p4 N y_2 x1 lo_1 q1_4 hi_0) N (v64 ((v64 ((v64 ((v64 ((bitsOf .or .u64 (shlOf .u64 hi_0 (v64 (x1))) (shrOf .u64 lo_1 (v64 (64-(v64 (x1))))))*4294967296))+(shrOf .u64 (shlOf .u64 lo_1 (v64 (x1))) 32)))-(v64 (q1_4*(shlOf .u64 y_2 (v64 (x1)))))))-(v64 ((v64 (Int.tdiv (v64 ((v64 ((v64 ((bitsOf .or .u64 (shlOf .u64 hi_0 (v64 (x1))) (shrOf .u64 lo_1 (v64 (64-(v64 (x1))))))*4294967296))+(shrOf .u64 (shlOf .u64 lo_1 (v64 (x1))) 32)))-(v64 (q1_4*(shlOf .u64 y_2 (v64 (x1))))))) (shrOf .u64 (shlOf .u64 y_2 (v64 (x1))) 32)))*(shrOf .u64 (shlOf .u64 y_2 (v64 (x1))) 32)))),v64 (Int.tdiv (v64 ((v64 ((v64 ((bitsOf .or .u64 (shlOf .u64 hi_0 (v64 (x1))) (shrOf .u64 lo_1 (v64 (64-(v64 (x1))))))*4294967296))+(shrOf .u64 (shlOf .u64 lo_1 (v64 (x1))) 32)))-(v64 (q1_4*(shlOf .u64 y_2 (v64 (x1))))))) (shrOf .u64 (shlOf .u64 y_2 (v64 (x1))) 32)))
noncomputable def Zae.p2 (N:Nat) (c1_:(Int×Int)→Option (Int×Int)) (y_2 x1 hi_0 lo_1 q1_2 rhat_3:Int):Option (Int×Int):=
 if (decide ((v64 (rhat_3+(shrOf .u64 (shlOf .u64 y_2 (v64 (x1))) 32)))≥4294967296))=true then
  Zae.p3 N y_2 x1 hi_0 lo_1 (v64 (q1_2-1))
 else
 c1_ (v64 (q1_2-1),v64 (rhat_3+(shrOf .u64 (shlOf .u64 y_2 (v64 (x1))) 32)))
noncomputable def Zae.p1 (N:Nat) (y_2 x1 hi_0 lo_1:Int) (c1_:(Int×Int)→Option (Int×Int)):(Int×Int)→Option (Int×Int):=fun (q1_2,rhat_3)=>
 if (decide (q1_2≥4294967296))=true then
  Zae.p2 N c1_ y_2 x1 hi_0 lo_1 q1_2 rhat_3
 else
 if (decide ((v64 (q1_2*(bitsOf .and .u64 (shlOf .u64 y_2 (v64 (x1))) 4294967295)))>(v64 ((v64 (4294967296*rhat_3))+(shrOf .u64 (shlOf .u64 lo_1 (v64 (x1))) 32)))))=true then
  Zae.p2 N c1_ y_2 x1 hi_0 lo_1 q1_2 rhat_3
 else
 Zae.p3 N y_2 x1 hi_0 lo_1 q1_2
noncomputable def Zae (N:Nat) (hi_0 lo_1 y_2:Int):Option (Int×Int):=
 if (y_2==0)=true then
  none
 else
 if (decide (y_2≤hi_0))=true then
  none
 else
 if (hi_0==0)=true then
  chk (y_2≠0)<|
  some (v64 (Int.tdiv lo_1 y_2),Int.tmod lo_1 y_2)
 else
 optE (Zbc N y_2) fun x1=>
 chk (0≤(v64 (x1)))<|
 chk (0≤(v64 (64-(v64 (x1)))))<|
 chk ((shrOf .u64 (shlOf .u64 y_2 (v64 (x1))) 32)≠0)<|
 loopN (Zae.p1 N y_2 x1 hi_0 lo_1) N (v64 (Int.tdiv (bitsOf .or .u64 (shlOf .u64 hi_0 (v64 (x1))) (shrOf .u64 lo_1 (v64 (64-(v64 (x1)))))) (shrOf .u64 (shlOf .u64 y_2 (v64 (x1))) 32)),v64 ((bitsOf .or .u64 (shlOf .u64 hi_0 (v64 (x1))) (shrOf .u64 lo_1 (v64 (64-(v64 (x1))))))-(v64 ((v64 (Int.tdiv (bitsOf .or .u64 (shlOf .u64 hi_0 (v64 (x1))) (shrOf .u64 lo_1 (v64 (64-(v64 (x1)))))) (shrOf .u64 (shlOf .u64 y_2 (v64 (x1))) 32)))*(shrOf .u64 (shlOf .u64 y_2 (v64 (x1))) 32)))))
noncomputable def Zae.p6.S (y_2 x1 lo_1 q1_4 hi_0 q0_7:Int) (st:LL):S:=mkS 135 [(2,.one (.l (L.int .u64 (shlOf .u64 y_2 (v64 (x1)))))),(8,.one (.l (L.int .u64 (v64 (x1))))),(14,.one (.l (L.int .u64 (bitsOf .and .u64 (shlOf .u64 lo_1 (v64 (x1))) 4294967295)))),(15,.one (.l (L.int .u64 q1_4))),(17,.one (.l (L.int .u64 (v64 ((v64 ((v64 ((bitsOf .or .u64 (shlOf .u64 hi_0 (v64 (x1))) (shrOf .u64 lo_1 (v64 (64-(v64 (x1))))))*4294967296))+(shrOf .u64 (shlOf .u64 lo_1 (v64 (x1))) 32)))-(v64 (q1_4*(shlOf .u64 y_2 (v64 (x1)))))))))),(18,.one (.l (L.int .u64 q0_7)))] [] st
noncomputable def Zae.p5.S (y_2 x1 lo_1 q1_4 rhat_5 hi_0 q0_6:Int) (st:LL):S:=mkS 135 [(2,.one (.l (L.int .u64 (shlOf .u64 y_2 (v64 (x1)))))),(8,.one (.l (L.int .u64 (v64 (x1))))),(9,.one (.l (L.int .u64 (shrOf .u64 (shlOf .u64 y_2 (v64 (x1))) 32)))),(10,.one (.l (L.int .u64 (bitsOf .and .u64 (shlOf .u64 y_2 (v64 (x1))) 4294967295)))),(14,.one (.l (L.int .u64 (bitsOf .and .u64 (shlOf .u64 lo_1 (v64 (x1))) 4294967295)))),(15,.one (.l (L.int .u64 q1_4))),(16,.one (.l (L.int .u64 rhat_5))),(17,.one (.l (L.int .u64 (v64 ((v64 ((v64 ((bitsOf .or .u64 (shlOf .u64 hi_0 (v64 (x1))) (shrOf .u64 lo_1 (v64 (64-(v64 (x1))))))*4294967296))+(shrOf .u64 (shlOf .u64 lo_1 (v64 (x1))) 32)))-(v64 (q1_4*(shlOf .u64 y_2 (v64 (x1)))))))))),(18,.one (.l (L.int .u64 q0_6)))] [] st
noncomputable def Zae.p4.S (y_2 x1 lo_1 q1_4 rhat_5 hi_0 q0_6:Int) (st:LL):S:=mkS 135 [(2,.one (.l (L.int .u64 (shlOf .u64 y_2 (v64 (x1)))))),(8,.one (.l (L.int .u64 (v64 (x1))))),(9,.one (.l (L.int .u64 (shrOf .u64 (shlOf .u64 y_2 (v64 (x1))) 32)))),(10,.one (.l (L.int .u64 (bitsOf .and .u64 (shlOf .u64 y_2 (v64 (x1))) 4294967295)))),(14,.one (.l (L.int .u64 (bitsOf .and .u64 (shlOf .u64 lo_1 (v64 (x1))) 4294967295)))),(15,.one (.l (L.int .u64 q1_4))),(16,.one (.l (L.int .u64 rhat_5))),(17,.one (.l (L.int .u64 (v64 ((v64 ((v64 ((bitsOf .or .u64 (shlOf .u64 hi_0 (v64 (x1))) (shrOf .u64 lo_1 (v64 (64-(v64 (x1))))))*4294967296))+(shrOf .u64 (shlOf .u64 lo_1 (v64 (x1))) 32)))-(v64 (q1_4*(shlOf .u64 y_2 (v64 (x1)))))))))),(18,.one (.l (L.int .u64 q0_6)))] [] st
noncomputable def Zae.p3.S (y_2 x1 hi_0 lo_1 q1_4:Int) (st:LL):S:=mkS 135 [(2,.one (.l (L.int .u64 (shlOf .u64 y_2 (v64 (x1)))))),(8,.one (.l (L.int .u64 (v64 (x1))))),(9,.one (.l (L.int .u64 (shrOf .u64 (shlOf .u64 y_2 (v64 (x1))) 32)))),(10,.one (.l (L.int .u64 (bitsOf .and .u64 (shlOf .u64 y_2 (v64 (x1))) 4294967295)))),(11,.one (.l (L.int .u64 (bitsOf .or .u64 (shlOf .u64 hi_0 (v64 (x1))) (shrOf .u64 lo_1 (v64 (64-(v64 (x1))))))))),(13,.one (.l (L.int .u64 (shrOf .u64 (shlOf .u64 lo_1 (v64 (x1))) 32)))),(14,.one (.l (L.int .u64 (bitsOf .and .u64 (shlOf .u64 lo_1 (v64 (x1))) 4294967295)))),(15,.one (.l (L.int .u64 q1_4)))] [] st
noncomputable def Zae.p2.S (y_2 x1 hi_0 lo_1 q1_2 rhat_3:Int) (st:LL):S:=mkS 135 [(2,.one (.l (L.int .u64 (shlOf .u64 y_2 (v64 (x1)))))),(8,.one (.l (L.int .u64 (v64 (x1))))),(9,.one (.l (L.int .u64 (shrOf .u64 (shlOf .u64 y_2 (v64 (x1))) 32)))),(10,.one (.l (L.int .u64 (bitsOf .and .u64 (shlOf .u64 y_2 (v64 (x1))) 4294967295)))),(11,.one (.l (L.int .u64 (bitsOf .or .u64 (shlOf .u64 hi_0 (v64 (x1))) (shrOf .u64 lo_1 (v64 (64-(v64 (x1))))))))),(13,.one (.l (L.int .u64 (shrOf .u64 (shlOf .u64 lo_1 (v64 (x1))) 32)))),(14,.one (.l (L.int .u64 (bitsOf .and .u64 (shlOf .u64 lo_1 (v64 (x1))) 4294967295)))),(15,.one (.l (L.int .u64 q1_2))),(16,.one (.l (L.int .u64 rhat_3)))] [] st
noncomputable def Zae.p1.S (y_2 x1 hi_0 lo_1 q1_2 rhat_3:Int) (st:LL):S:=mkS 135 [(2,.one (.l (L.int .u64 (shlOf .u64 y_2 (v64 (x1)))))),(8,.one (.l (L.int .u64 (v64 (x1))))),(9,.one (.l (L.int .u64 (shrOf .u64 (shlOf .u64 y_2 (v64 (x1))) 32)))),(10,.one (.l (L.int .u64 (bitsOf .and .u64 (shlOf .u64 y_2 (v64 (x1))) 4294967295)))),(11,.one (.l (L.int .u64 (bitsOf .or .u64 (shlOf .u64 hi_0 (v64 (x1))) (shrOf .u64 lo_1 (v64 (64-(v64 (x1))))))))),(13,.one (.l (L.int .u64 (shrOf .u64 (shlOf .u64 lo_1 (v64 (x1))) 32)))),(14,.one (.l (L.int .u64 (bitsOf .and .u64 (shlOf .u64 lo_1 (v64 (x1))) 4294967295)))),(15,.one (.l (L.int .u64 q1_2))),(16,.one (.l (L.int .u64 rhat_3)))] [] st
theorem Zae.p6_ok {y_2 x1 lo_1 q1_4 hi_0 q0_7 st r} (h:Zae.p6 N y_2 x1 lo_1 q1_4 hi_0 q0_7=some r) (hE:En Tryz.f225 g0 w0 (Zae.rs r) st R):At g0 w0 (Zae.p6.S y_2 x1 lo_1 q1_4 hi_0 q0_7 st) (XK Tryz.prog R [.c (csub Zae.B [1,1,1,1,1,1,1,1,1,1,1,1,1,1,1,1,1,1,1])]):=by
 unfold Zae.p6 at h
 obtain ⟨c16,h1⟩:=ZaU h
 obtain rfl:=Zaa h1
 exact af fol hE [.r []] [] 0 [] c16
theorem Zae.p5_ok {y_2 x1 lo_1 q1_4 rhat_5 hi_0 q0_6 st r c4_ J4} (h:Zae.p5 N c4_ y_2 x1 lo_1 q1_4 rhat_5 hi_0 q0_6=some r) (hE:En Tryz.f225 g0 w0 (Zae.rs r) st R) (hc4 : ∀rhat_5 q0_6,c4_ (rhat_5,q0_6)=some r→At g0 w0 (Zae.p4.S y_2 x1 lo_1 q1_4 rhat_5 hi_0 q0_6 st) J4):At g0 w0 (Zae.p5.S y_2 x1 lo_1 q1_4 rhat_5 hi_0 q0_6 st) (XK Tryz.prog R [.c (csub Zae.B [1,1,1,1,1,1,1,1,1,1,1,1,1,1,1,1,1,1,0,0,0,1]),.h J4,.b 2,.c (csub Zae.B [1,1,1,1,1,1,1,1,1,1,1,1,1,1,1,1,1,1,1])]):=by
 unfold Zae.p5 at h
 refine iteB h (fun c15 h2=>?_) (fun c15 h3=>?_)
 ·exact aq fol [.r [],.r [],.r [],.c true,.s 1] [2,8,14,15,17,18] [] c15 (Zae.p6_ok h2 hE)
 ·exact an fol [.r [],.r [],.r [],.c false] [2,8,9,10,14,15,16,17,18] [] c15 (hc4 (v64 (rhat_5+(shrOf .u64 (shlOf .u64 y_2 (v64 (x1))) 32))) (v64 (q0_6-1)) h3)
theorem Zae.p4_ok {y_2 x1 lo_1 q1_4 rhat_5 hi_0 q0_6 st r c4_ J4} (h:Zae.p4 N y_2 x1 lo_1 q1_4 hi_0 c4_ (rhat_5,q0_6)=some r) (hE:En Tryz.f225 g0 w0 (Zae.rs r) st R) (hc4 : ∀rhat_5 q0_6,c4_ (rhat_5,q0_6)=some r→At g0 w0 (Zae.p4.S y_2 x1 lo_1 q1_4 rhat_5 hi_0 q0_6 st) J4):At g0 w0 (Zae.p4.S y_2 x1 lo_1 q1_4 rhat_5 hi_0 q0_6 st) (XK Tryz.prog R (.c (csub Zae.B [1,1,1,1,1,1,1,1,1,1,1,1,1,1,1,1,1,1,0,0,0]) :: .h J4 :: [.b 2,.c (csub Zae.B [1,1,1,1,1,1,1,1,1,1,1,1,1,1,1,1,1,1,1])])):=by
 unfold Zae.p4 at h
 refine iteB h (fun c13 h4=>?_) (fun c13 h5=>?_)
 ·exact aq fol [.r [(3,wF),(4,wF),(5,wF),(6,wF),(7,wF),(8,wF),(9,wF),(10,wF)],.c true,.s 4] [2,8,9,10,14,15,16,17,18] [] (aO c13 c13 c13 c13 c13 c13 c13 (aJ c13 c13 eT)) (Zae.p5_ok h4 hE hc4)
 ·have t1 {Q:Prop} (q:Q):=aO c13 c13 c13 c13 c13 c13 c13 (aJ c13 c13 q)
  refine iteB h5 (fun c14 h6=>?_) (fun c14 h7=>?_)
  ·exact aq fol [.r [(11,yF)],.c true,.s 4] [2,8,9,10,14,15,16,17,18] [] (t1 c14) (Zae.p5_ok h6 hE hc4)
  ·exact aq fol [.r [(11,yF)],.c false,.s 1] [2,8,14,15,17,18] [] (t1 c14) (Zae.p6_ok h7 hE)
theorem Zae.p3_ok {y_2 x1 hi_0 lo_1 q1_4 st r} (h:Zae.p3 N y_2 x1 hi_0 lo_1 q1_4=some r) (hE:En Tryz.f225 g0 w0 (Zae.rs r) st R):At g0 w0 (Zae.p3.S y_2 x1 hi_0 lo_1 q1_4 st) (XK Tryz.prog R [.c (csub Zae.B [1,1,1,1,1,1,1,1,1,1,1,1,1,1,1])]):=by
 unfold Zae.p3 at h
 obtain ⟨c12,h8⟩:=ZaU h
 exact aq fol [.r [],.r [],.r []] [2,8,9,10,14,15,16,17,18] [] c12 (At.loop N (At.loopN (fun y:Int×Int=>Zae.p4.S y_2 x1 lo_1 q1_4 y.1 hi_0 y.2 st) (fun c J hc y h=>Zae.p4_ok (rhat_5:=y.1) (q0_6:=y.2) h hE (fun rhat_5 q0_6=>hc (rhat_5,q0_6))) N (v64 ((v64 ((v64 ((v64 ((bitsOf .or .u64 (shlOf .u64 hi_0 (v64 (x1))) (shrOf .u64 lo_1 (v64 (64-(v64 (x1))))))*4294967296))+(shrOf .u64 (shlOf .u64 lo_1 (v64 (x1))) 32)))-(v64 (q1_4*(shlOf .u64 y_2 (v64 (x1)))))))-(v64 ((v64 (Int.tdiv (v64 ((v64 ((v64 ((bitsOf .or .u64 (shlOf .u64 hi_0 (v64 (x1))) (shrOf .u64 lo_1 (v64 (64-(v64 (x1))))))*4294967296))+(shrOf .u64 (shlOf .u64 lo_1 (v64 (x1))) 32)))-(v64 (q1_4*(shlOf .u64 y_2 (v64 (x1))))))) (shrOf .u64 (shlOf .u64 y_2 (v64 (x1))) 32)))*(shrOf .u64 (shlOf .u64 y_2 (v64 (x1))) 32)))),v64 (Int.tdiv (v64 ((v64 ((v64 ((bitsOf .or .u64 (shlOf .u64 hi_0 (v64 (x1))) (shrOf .u64 lo_1 (v64 (64-(v64 (x1))))))*4294967296))+(shrOf .u64 (shlOf .u64 lo_1 (v64 (x1))) 32)))-(v64 (q1_4*(shlOf .u64 y_2 (v64 (x1))))))) (shrOf .u64 (shlOf .u64 y_2 (v64 (x1))) 32))) h8))
theorem Zae.p2_ok {y_2 x1 hi_0 lo_1 q1_2 rhat_3 st r c1_ J1} (h:Zae.p2 N c1_ y_2 x1 hi_0 lo_1 q1_2 rhat_3=some r) (hE:En Tryz.f225 g0 w0 (Zae.rs r) st R) (hc1 : ∀q1_2 rhat_3,c1_ (q1_2,rhat_3)=some r→At g0 w0 (Zae.p1.S y_2 x1 hi_0 lo_1 q1_2 rhat_3 st) J1):At g0 w0 (Zae.p2.S y_2 x1 hi_0 lo_1 q1_2 rhat_3 st) (XK Tryz.prog R [.c (csub Zae.B [1,1,1,1,1,1,1,1,1,1,1,1,1,1,0,0,0,1]),.h J1,.b 0,.c (csub Zae.B [1,1,1,1,1,1,1,1,1,1,1,1,1,1,1])]):=by
 unfold Zae.p2 at h
 refine iteB h (fun c11 h9=>?_) (fun c11 h10=>?_)
 ·exact aq fol [.r [],.r [],.r [],.c true,.s 1] [2,8,9,10,11,13,14,15] [] c11 (Zae.p3_ok h9 hE)
 ·exact an fol [.r [],.r [],.r [],.c false] [2,8,9,10,11,13,14,15,16] [] c11 (hc1 (v64 (q1_2-1)) (v64 (rhat_3+(shrOf .u64 (shlOf .u64 y_2 (v64 (x1))) 32))) h10)
theorem Zae.p1_ok {y_2 x1 hi_0 lo_1 q1_2 rhat_3 st r c1_ J1} (h:Zae.p1 N y_2 x1 hi_0 lo_1 c1_ (q1_2,rhat_3)=some r) (hE:En Tryz.f225 g0 w0 (Zae.rs r) st R) (hc1 : ∀q1_2 rhat_3,c1_ (q1_2,rhat_3)=some r→At g0 w0 (Zae.p1.S y_2 x1 hi_0 lo_1 q1_2 rhat_3 st) J1):At g0 w0 (Zae.p1.S y_2 x1 hi_0 lo_1 q1_2 rhat_3 st) (XK Tryz.prog R (.c (csub Zae.B [1,1,1,1,1,1,1,1,1,1,1,1,1,1,0,0,0]) :: .h J1 :: [.b 0,.c (csub Zae.B [1,1,1,1,1,1,1,1,1,1,1,1,1,1,1])])):=by
 unfold Zae.p1 at h
 refine iteB h (fun c9 h11=>?_) (fun c9 h12=>?_)
 ·exact aq fol [.r [(3,wF),(4,wF),(5,wF),(6,wF),(7,wF),(8,wF),(9,wF),(10,wF)],.c true,.s 4] [2,8,9,10,11,13,14,15,16] [] (aO c9 c9 c9 c9 c9 c9 c9 (aJ c9 c9 eT)) (Zae.p2_ok h11 hE hc1)
 ·refine iteB h12 (fun c10 h13=>?_) (fun c10 h14=>?_)
  ·exact aq fol [.r [(11,yF)],.c true,.s 4] [2,8,9,10,11,13,14,15,16] [] (aO c9 c9 c9 c9 c9 c9 c9 (aJ c9 c9 c10)) (Zae.p2_ok h13 hE hc1)
  ·exact aq fol [.r [(11,yF)],.c false,.s 1] [2,8,9,10,11,13,14,15] [] (aO c9 c9 c9 c9 c9 c9 c9 (aJ c9 c9 c10)) (Zae.p3_ok h14 hE)
theorem Zae.snd {hi_0 lo_1 y_2:Int} {r:Int×Int} (h:Zae N hi_0 lo_1 y_2=some r):SndQ Tryz.prog 225 [.one (L.int .u64 hi_0),.one (L.int .u64 lo_1),.one (L.int .u64 y_2)] (Zae.rs r):=fun st=>
 sO Zae.B Tryz.func225 fun g0 w0 R hE=>by
  unfold Zae at h
  let o1:List PS:=[.r [],.r [],.c false,.r [],.c false,.r []]
  refine iteB h (fun c1 h15=>?_) (fun c1 h16=>?_)
  ·cases h15
  ·refine iteB h16 (fun c2 h17=>?_) (fun c2 h18=>?_)
   ·cases h17
   ·refine iteB h18 (fun c3 h19=>?_) (fun c3 h20=>?_)
    ·obtain ⟨c4,h21⟩:=ZaU h19
     obtain rfl:=Zaa h21
     exact afd fol hE (o1 ++ [.c true,.d {ds:=[],hv:=0,Hs:=[]}]) [] 0 [] (aL c1 c2 c3 c4 c4)
    ·obtain ⟨x1,c5,h22⟩:=Zac h20
     obtain ⟨c6,c7,c8,h23⟩:=ck3 h22
     exact aq fol (o1 ++ [.c false,.r [(1,q1 [oI x1])],.r [],.r [],.r [],.r [],.r [],.r [],.r [],.r [],.r []]) [2,8,9,10,11,13,14,15,16] [] (aO c1 c2 c3 (Zbc.snd c5) c6 (leI 0 32) c6 (aK c7 c6 (leI 0 32) c8)) (At.loop N (At.loopN (fun y:Int×Int=>Zae.p1.S y_2 x1 hi_0 lo_1 y.1 y.2 st) (fun c J hc y h=>Zae.p1_ok (q1_2:=y.1) (rhat_3:=y.2) h hE (fun q1_2 rhat_3=>hc (q1_2,rhat_3))) N (v64 (Int.tdiv (bitsOf .or .u64 (shlOf .u64 hi_0 (v64 (x1))) (shrOf .u64 lo_1 (v64 (64-(v64 (x1)))))) (shrOf .u64 (shlOf .u64 y_2 (v64 (x1))) 32)),v64 ((bitsOf .or .u64 (shlOf .u64 hi_0 (v64 (x1))) (shrOf .u64 lo_1 (v64 (64-(v64 (x1))))))-(v64 ((v64 (Int.tdiv (bitsOf .or .u64 (shlOf .u64 hi_0 (v64 (x1))) (shrOf .u64 lo_1 (v64 (64-(v64 (x1)))))) (shrOf .u64 (shlOf .u64 y_2 (v64 (x1))) 32)))*(shrOf .u64 (shlOf .u64 y_2 (v64 (x1))) 32))))) h23))
noncomputable def Zbw.B:Code:=Tryz.f214.body.getD .skip
noncomputable def Zbw.rs (r:(List Int)×Int):List CV:=[.agg [L.arr .u64 4 r.1],.one (L.int .u64 r.2)]
noncomputable def Zbw.p1 (N:Nat) (by_1:Int) (c1_:(Int×Int×(List Int))→Option ((List Int)×Int)):(Int×Int×(List Int))→Option ((List Int)×Int):=fun (r_1,i_2,a_5)=>
 if (decide (i_2≥0))=true then
  chk (0≤i_2)<|
  chk (i_2<4)<|
  optE (Zae N r_1 (List.getD a_5 (Int.toNat i_2) 0) by_1) fun (x6,x7)=>
  c1_ (x7,w64 (i_2-1),List.set a_5 (Int.toNat i_2) x6)
 else
 some (a_5,r_1)
noncomputable def Zbw (N:Nat) (a_0_0:List Int) (by_1:Int):Option ((List Int)×Int):=
 if (by_1==0)=true then
  some (List.replicate 4 0,0)
 else
 loopN (Zbw.p1 N by_1) N (0,3,a_0_0)
noncomputable def Zbw.p1.S (by_1 r_1 i_2:Int) (a_5:List Int) (st:LL):S:=mkS 28 [(1,.one (.l (L.int .u64 by_1))),(2,sA 2),(4,sA 4),(6,.one (.l (L.int .u64 r_1))),(7,sI i_2)] [(2,.cells [L.arr .u64 4 a_5]),(4,.cells [L.arr .u64 4 (List.replicate 4 0)])] st
theorem Zbw.p1_ok {by_1 r_1 i_2 a_5 st r c1_ J1} (h:Zbw.p1 N by_1 c1_ (r_1,i_2,a_5)=some r) (hE:En Tryz.f214 g0 w0 (Zbw.rs r) st R) (hc1 : ∀r_1 i_2 a_5,c1_ (r_1,i_2,a_5)=some r→At g0 w0 (Zbw.p1.S by_1 r_1 i_2 a_5 st) J1):At g0 w0 (Zbw.p1.S by_1 r_1 i_2 a_5 st) (XK Tryz.prog R (.c (csub Zbw.B [1,1,1,0,1,0,0]) :: .h J1 :: [.b 0,.c (csub Zbw.B [1,1,1,1])])):=by
 unfold Zbw.p1 at h
 refine iteB h (fun c6 h1=>?_) (fun c6 h2=>?_)
 ·obtain ⟨c7,c8,h3⟩:=ck2 h1
  obtain ⟨⟨x6,x7⟩,c9,h4⟩:=Zac h3
  exact an fol [.r [],.c true,.r [(6,q1 [.one (L.int .u64 x6),.one (L.int .u64 x7)])],.r []] [1,2,4,6,7] [2,4] (aM c6 c7 c8 (Zae.snd c9) c7 c8) (hc1 x7 (w64 (i_2-1)) (List.set a_5 (Int.toNat i_2) x6) h4)
 ·obtain rfl:=Zaa h2
  exact af fol hE [.r [],.c false,.r []] [] 0 [] c6
theorem Zbw.snd {a_0_0:List Int} {by_1:Int} {r:(List Int)×Int} (h:Zbw N a_0_0 by_1=some r):SndQ Tryz.prog 214 [.agg [L.arr .u64 4 a_0_0],.one (L.int .u64 by_1)] (Zbw.rs r):=fun st=>
 sO Zbw.B Tryz.func214 fun g0 w0 R hE=>by
  unfold Zbw at h
  refine iteB h (fun c1 h5=>?_) (fun c1 h6=>?_)
  ·obtain rfl:=Zaa h5
   exact af fol hE [.r [],.r [],.c true,.r []] [] 0 [] c1
  ·exact aq fol [.r [],.r [],.c false,.r [],.r []] [1,2,4,6,7] [2,4] c1 (At.loop N (At.loopN (fun y:Int×Int×(List Int)=>Zbw.p1.S by_1 y.1 y.2.1 y.2.2 st) (fun c J hc y h=>Zbw.p1_ok (r_1:=y.1) (i_2:=y.2.1) (a_5:=y.2.2) h hE (fun r_1 i_2 a_5=>hc (r_1,i_2,a_5))) N (0,3,a_0_0) h6))
noncomputable def ZbK.B:Code:=Tryz.f226.body.getD .skip
noncomputable def ZbK.rs (r:Int×Int):List CV:=[.one (L.int .u64 r.1),.one (L.int .u64 r.2)]
noncomputable def ZbK (N:Nat) (x_0 y_1:Int):Option (Int×Int):=
 some (v64 ((v64 ((v64 ((shrOf .u64 x_0 32)*(shrOf .u64 y_1 32)))+(shrOf .u64 (v64 ((v64 ((shrOf .u64 x_0 32)*(bitsOf .and .u64 y_1 4294967295)))+(shrOf .u64 (v64 ((bitsOf .and .u64 x_0 4294967295)*(bitsOf .and .u64 y_1 4294967295))) 32))) 32)))+(shrOf .u64 (v64 ((bitsOf .and .u64 (v64 ((v64 ((shrOf .u64 x_0 32)*(bitsOf .and .u64 y_1 4294967295)))+(shrOf .u64 (v64 ((bitsOf .and .u64 x_0 4294967295)*(bitsOf .and .u64 y_1 4294967295))) 32))) 4294967295)+(v64 ((bitsOf .and .u64 x_0 4294967295)*(shrOf .u64 y_1 32))))) 32)),v64 (x_0*y_1))
theorem ZbK.snd {x_0 y_1:Int} {r:Int×Int} (h:ZbK N x_0 y_1=some r):SndQ Tryz.prog 226 [.one (L.int .u64 x_0),.one (L.int .u64 y_1)] (ZbK.rs r):=fun st=>
 sO ZbK.B Tryz.func226 fun g0 w0 R hE=>by
  unfold ZbK at h
  obtain rfl:=Zaa h
  exact af fol hE [.r [],.r [],.r [],.r [],.r [],.r [],.r [],.r [],.r [],.r [],.r [],.r []] [] 0 [] (aL (leI 0 32) (leI 0 32) (leI 0 32) (leI 0 32) (leI 0 32))
noncomputable def Zbk.B:Code:=Tryz.f215.body.getD .skip
noncomputable def Zbk.rs (r:(List Int)×Bool):List CV:=[.agg [L.arr .u64 4 r.1],oB r.2]
noncomputable def Zbk.p1 (N:Nat) (by_1:Int) (c1_:(Int×Int×(List Int))→Option ((List Int)×Bool)):(Int×Int×(List Int))→Option ((List Int)×Bool):=fun (c_1,v2,a_7)=>
 if (decide (v2<4))=true then
  chk (0≤v2)<|
  optE (ZbK N (List.getD a_7 (Int.toNat v2) 0) by_1) fun (x8,x9)=>
  optE (ZcD N x9 c_1 0) fun (x10,x11)=>
  c1_ (v64 (x8+x11),w64 (v2+1),List.set a_7 (Int.toNat v2) x10)
 else
 some (a_7,c_1 != 0)
noncomputable def Zbk (N:Nat) (a_0_0:List Int) (by_1:Int):Option ((List Int)×Bool):=
 loopN (Zbk.p1 N by_1) N (0,0,a_0_0)
noncomputable def Zbk.p1.S (by_1 c_1 v2:Int) (a_7:List Int) (st:LL):S:=mkS 37 [(1,.one (.l (L.int .u64 by_1))),(2,sA 2),(4,sA 4),(6,.one (.l (L.int .u64 c_1))),(11,sI v2)] [(2,.cells [L.arr .u64 4 a_7]),(4,.cells [L.arr .u64 4 (List.replicate 4 0)])] st
theorem Zbk.p1_ok {by_1 c_1 v2 a_7 st r c1_ J1} (h:Zbk.p1 N by_1 c1_ (c_1,v2,a_7)=some r) (hE:En Tryz.f215 g0 w0 (Zbk.rs r) st R) (hc1 : ∀c_1 v2 a_7,c1_ (c_1,v2,a_7)=some r→At g0 w0 (Zbk.p1.S by_1 c_1 v2 a_7 st) J1):At g0 w0 (Zbk.p1.S by_1 c_1 v2 a_7 st) (XK Tryz.prog R (.c (csub Zbk.B [1,1,0,1,0,0]) :: .h J1 :: [.b 0,.c (csub Zbk.B [1,1,1])])):=by
 unfold Zbk.p1 at h
 refine iteB h (fun c5 h1=>?_) (fun c5 h2=>?_)
 ·obtain ⟨c6,h3⟩:=ZaU h1
  obtain ⟨⟨x8,x9⟩,c7,h4⟩:=Zac h3
  obtain ⟨⟨x10,x11⟩,c8,h5⟩:=Zac h4
  exact an fol [.r [],.c true,.r [],.r [(4,q1 [.one (L.int .u64 x8),.one (L.int .u64 x9)])],.r [],.r [(3,{rs:=[.one (L.int .u64 x10),.one (L.int .u64 x11)],m:=4})],.r [],.r []] [1,2,4,6,11] [2,4] (aN c5 c6 (oD c5) (ZbK.snd c7) (ZcD.snd c8) c6 (oD c5)) (hc1 (v64 (x8+x11)) (w64 (v2+1)) (List.set a_7 (Int.toNat v2) x10) h5)
 ·obtain rfl:=Zaa h2
  exact af fol hE [.r [],.c false,.r []] [] 0 [] c5
theorem Zbk.snd {a_0_0:List Int} {by_1:Int} {r:(List Int)×Bool} (h:Zbk N a_0_0 by_1=some r):SndQ Tryz.prog 215 [.agg [L.arr .u64 4 a_0_0],.one (L.int .u64 by_1)] (Zbk.rs r):=fun st=>
 sO Zbk.B Tryz.func215 fun g0 w0 R hE=>by
  unfold Zbk at h
  exact aq fol [.r [],.r [],.r []] [1,2,4,6,11] [2,4] trivial (At.loop N (At.loopN (fun y:Int×Int×(List Int)=>Zbk.p1.S by_1 y.1 y.2.1 y.2.2 st) (fun c J hc y h=>Zbk.p1_ok (c_1:=y.1) (v2:=y.2.1) (a_7:=y.2.2) h hE (fun c_1 v2 a_7=>hc (c_1,v2,a_7))) N (0,0,a_0_0) h))
noncomputable def ZaB.B:Code:=Tryz.f216.body.getD .skip
noncomputable def ZaB.rs (r:Int):List CV:=[oI r]
noncomputable def ZaB.p2 (N:Nat) (size_5 word_6:Int):Option Int:=
 some (bitsOf .or .i64 (shlOf .i64 size_5 24) word_6)
noncomputable def ZaB.p1 (N:Nat) (x1 word_4:Int):Option Int:=
 if ((bitsOf .and .i64 word_4 8388608) != 0)=true then
  ZaB.p2 N (w64 ((w64 (Int.tdiv (w64 (x1+7)) 8))+1)) (shrOf .i64 word_4 8)
 else
 ZaB.p2 N (w64 (Int.tdiv (w64 (x1+7)) 8)) word_4
noncomputable def ZaB (N:Nat) (n_0_0:List Int):Option Int:=
 optE (ZbB N n_0_0) fun x1=>
 if (decide ((w64 (Int.tdiv (w64 (x1+7)) 8))≤3))=true then
  optE (Zba N n_0_0 (w64 (8*(w64 (3-(w64 (Int.tdiv (w64 (x1+7)) 8))))))) fun x2=>
  ZaB.p1 N x1 (w64 (List.getD x2 0 0))
 else
 optE (ZaJ N n_0_0 (w64 (8*(w64 ((w64 (Int.tdiv (w64 (x1+7)) 8))-3))))) fun x3=>
 ZaB.p1 N x1 (w64 (List.getD x3 0 0))
noncomputable def ZaB.p2.S (size_5 word_6:Int) (st:LL):S:=mkS 36 [(3,sI size_5),(4,sI word_6)] [] st
noncomputable def ZaB.p1.S (x1 word_4:Int) (st:LL):S:=mkS 36 [(3,sI (w64 (Int.tdiv (w64 (x1+7)) 8))),(4,sI word_4)] [] st
theorem ZaB.p2_ok {size_5 word_6 st r} (h:ZaB.p2 N size_5 word_6=some r) (hE:En Tryz.f216 g0 w0 (ZaB.rs r) st R):At g0 w0 (ZaB.p2.S size_5 word_6 st) (XK Tryz.prog R [.c (csub ZaB.B [1,1,1,1,1])]):=by
 unfold ZaB.p2 at h
 obtain rfl:=Zaa h
 exact af fol hE [.r []] [] 0 [] (leI 0 24)
theorem ZaB.p1_ok {x1 word_4 st r} (h:ZaB.p1 N x1 word_4=some r) (hE:En Tryz.f216 g0 w0 (ZaB.rs r) st R):At g0 w0 (ZaB.p1.S x1 word_4 st) (XK Tryz.prog R [.c (csub ZaB.B [1,1,1,1])]):=by
 unfold ZaB.p1 at h
 refine iteB h (fun c5 h1=>?_) (fun c5 h2=>?_)
 ·exact aq fol [.r [],.c true,.r [],.r [],.s 1] [3,4] [] (aI c5 (leI 0 8)) (ZaB.p2_ok h1 hE)
 ·exact aq fol [.r [],.c false,.s 1] [3,4] [] c5 (ZaB.p2_ok h2 hE)
theorem ZaB.snd {n_0_0:List Int} {r:Int} (h:ZaB N n_0_0=some r):SndQ Tryz.prog 216 [.agg [L.arr .u64 4 n_0_0]] (ZaB.rs r):=fun st=>
 sO ZaB.B Tryz.func216 fun g0 w0 R hE=>by
  unfold ZaB at h
  obtain ⟨x1,c1,h3⟩:=Zac h
  let o1:List PS:=[.r [],.r [(1,q1 [oI x1])],.r [],.r []]
  refine iteB h3 (fun c2 h4=>?_) (fun c2 h5=>?_)
  ·obtain ⟨x2,c3,h6⟩:=Zac h4
   exact aq fol (o1 ++ [.c true,.r [(4,q1 [.agg [L.arr .u64 4 x2]])],.s 1]) [3,4] [] (aM (ZbB.snd c1) (neI 8) c2 (Zba.snd c3) (leI 0 0) (ltI 0 4)) (ZaB.p1_ok h6 hE)
  ·obtain ⟨x3,c4,h7⟩:=Zac h5
   exact aq fol (o1 ++ [.c false,.r [(4,q1 [.agg [L.arr .u64 4 x3]])],.s 1]) [3,4] [] (aM (ZbB.snd c1) (neI 8) c2 (ZaJ.snd c4) (leI 0 0) (ltI 0 4)) (ZaB.p1_ok h7 hE)
noncomputable def ZaZ.B:Code:=Tryz.f189.body.getD .skip
noncomputable def ZaZ.rs (r:Int):List CV:=[oI r]
noncomputable def ZaZ.p1 (N:Nat) (n_17:List Int):Option Int:=
 optE (ZaB N n_17) fun x18=>
 some x18
noncomputable def ZaZ (N:Nat) (p_0:Zag) (bits_1 from_2 to_3:Int):Option Int:=
 optE (Zby N bits_1 p_0.Limit) fun (x1,x2)=>
 optE (ZcR N p_0) fun x3=>
 if (!x3)=true then
  some p_0.Limit
 else
 if (!x2)=true then
  some p_0.Limit
 else
 optE (Zdd N p_0 from_2 to_3) fun x4=>
 optE (Zbw N x1 (v64 (w64 (p_0.Interval*p_0.Spacing)))) fun (x5,x6)=>
 optE (Zbk N x5 (v64 (x4))) fun (x7,x8)=>
 chk ((v64 (w64 (p_0.Interval*p_0.Spacing)))≠0)<|
 optE (Zcg N (v64 (Int.tdiv (v64 (x6*(v64 (x4)))) (v64 (w64 (p_0.Interval*p_0.Spacing)))))) fun x9=>
 optE (Zbg N x7 x9) fun (x10,x11)=>
 optE (Zby N p_0.Limit p_0.Limit) fun (x12,x13)=>
 if x8=true then
  some p_0.Limit
 else
 if x11=true then
  some p_0.Limit
 else
 optE (ZbU N x12 x10) fun x14=>
 if x14=true then
  some p_0.Limit
 else
 optE (ZbQ N x10) fun x15=>
 if x15=true then
  optE (Zcg N 1) fun x16=>
  ZaZ.p1 N x16
 else
 ZaZ.p1 N x10
noncomputable def ZaZ.p1.S (n_17:List Int) (st:LL):S:=mkS 94 [(15,sA 15)] [(15,.cells [L.arr .u64 4 n_17])] st
theorem ZaZ.p1_ok {n_17 st r} (h:ZaZ.p1 N n_17=some r) (hE:En Tryz.f189 g0 w0 (ZaZ.rs r) st R):At g0 w0 (ZaZ.p1.S n_17 st) (XK Tryz.prog R [.c (csub ZaZ.B [1,1,1,1,1,1,1,1,1,1,1])]):=by
 unfold ZaZ.p1 at h
 obtain ⟨x18,c19,h1⟩:=Zac h
 obtain rfl:=Zaa h1
 exact af fol hE [.r [(1,q1 [oI x18])]] [] 0 [] (ZaB.snd c19)
theorem ZaZ.snd {p_0:Zag} {bits_1 from_2 to_3:Int} {r:Int} (h:ZaZ N p_0 bits_1 from_2 to_3=some r):SndQ Tryz.prog 189 [.agg p_0.ls,oI bits_1,oI from_2,oI to_3] (ZaZ.rs r):=fun st=>
 sO ZaZ.B Tryz.func189 fun g0 w0 R hE=>by
  unfold ZaZ at h
  obtain ⟨⟨x1,x2⟩,c1,h2⟩:=Zac h
  obtain ⟨x3,c2,h3⟩:=Zac h2
  let o1:List PS:=[.r [],.r [(3,q1 [.agg [L.arr .u64 4 x1],oB x2])]]
  have t1 {Q:Prop} (q:Q):=aJ (Zby.snd c1) (ZcR.snd c2) q
  refine iteB h3 (fun c3 h4=>?_) (fun c3 h5=>?_)
  ·obtain rfl:=Zaa h4
   exact af fol hE (o1 ++ [.r [(1,q1 [oB x3]),(4,wF),(5,wF)],.c true,.r []]) [] 0 [] (t1 (aK (not_false (ZbO c3)) (not_false (ZbO c3)) (not_false (ZbO c3)) eT))
  ·let o2:List PS:=o1 ++ [.r [(1,q1 [oB x3]),(6,yF)]]
   have t2 {Q:Prop} (q:Q):=t1 (aK (not_true (ZbP c3)) (not_true (ZbP c3)) (not_true (ZbP c3)) q)
   refine iteB h5 (fun c4 h6=>?_) (fun c4 h7=>?_)
   ·obtain rfl:=Zaa h6
    exact af fol hE (o2 ++ [.c true,.r []]) [] 0 [] (t2 c4)
   ·obtain ⟨x4,c5,h8⟩:=Zac h7
    obtain ⟨⟨x5,x6⟩,c6,h9⟩:=Zac h8
    obtain ⟨⟨x7,x8⟩,c7,h10⟩:=Zac h9
    obtain ⟨c8,h11⟩:=ZaU h10
    obtain ⟨x9,c9,h12⟩:=Zac h11
    obtain ⟨⟨x10,x11⟩,c10,h13⟩:=Zac h12
    obtain ⟨⟨x12,x13⟩,c11,h14⟩:=Zac h13
    let o3:List PS:=o2 ++ [.c false,.r [],.r [(3,q1 [oI x4])],.r [(2,q1 [.agg [L.arr .u64 4 x5],.one (L.int .u64 x6)])],.r [(2,q1 [.agg [L.arr .u64 4 x7],oB x8])],.d {ds:=[(6,q1 [.agg [L.arr .u64 4 x9]]),(7,q1 [.agg [L.arr .u64 4 x10],oB x11])],hv:=2048,Hs:=[2048]},.r [(4,q1 [.agg [L.arr .u64 4 x12],oB x13])]]
    have t3 {Q:Prop} (q:Q):=t2 (aO c4 (Zdd.snd c5) (Zbw.snd c6) (Zbk.snd c7) c8 (Zcg.snd c9) (Zbg.snd c10) (aI (Zby.snd c11) q))
    refine iteB h14 (fun c12 h15=>?_) (fun c12 h16=>?_)
    ·obtain rfl:=Zaa h15
     exact afd fol hE (o3 ++ [.r [(2,wF),(5,wF),(6,wF),(7,wF)],.c true,.r []]) [] 0 [] (t3 (aN c12 c12 eT eT eT eT eT))
    ·refine iteB h16 (fun c13 h17=>?_) (fun c13 h18=>?_)
     ·obtain rfl:=Zaa h17
      exact afd fol hE (o3 ++ [.r [(3,yF),(5,wF),(6,wF),(7,wF)],.c true,.r []]) [] 0 [] (t3 (aN c12 c12 c13 c13 c13 c13 eT))
     ·obtain ⟨x14,c14,h19⟩:=Zac h18
      let o4:List PS:=o3 ++ [.r [(3,yF),(7,q1 [oB x14]),(8,yF)]]
      have t4 {Q:Prop} (q:Q):=t3 (aO c12 c12 c13 c13 c13 (ZbU.snd c14) c13 q)
      refine iteB h19 (fun c15 h20=>?_) (fun c15 h21=>?_)
      ·obtain rfl:=Zaa h20
       exact afd fol hE (o4 ++ [.c true,.r []]) [] 0 [] (t4 c15)
      ·obtain ⟨x15,c16,h22⟩:=Zac h21
       let o5:List PS:=o4 ++ [.c false,.r [(1,q1 [oB x15])]]
       refine iteB h22 (fun c17 h23=>?_) (fun c17 h24=>?_)
       ·obtain ⟨x16,c18,h25⟩:=Zac h23
        exact aqd fol (o5 ++ [.c true,.r [(0,q1 [.agg [L.arr .u64 4 x16]])],.s 1]) [15] [15] (t4 (aK c15 (ZbQ.snd c16) c17 (Zcg.snd c18))) (ZaZ.p1_ok h25 hE)
       ·exact aqd fol (o5 ++ [.c false,.s 1]) [15] [15] (t4 (aJ c15 (ZbQ.snd c16) c17)) (ZaZ.p1_ok h24 hE)
noncomputable def Zde.B:Code:=Tryz.f149.body.getD .skip
noncomputable def Zde.rs (r:Int):List CV:=[oI r]
noncomputable def Zde (N:Nat) (p_0:Zag) (at_1:ZbV) (time_2:Int):Option Int:=
 if (decide (at_1.Height≤0))=true then
  some p_0.Limit
 else
 optE (ZbZ N p_0 at_1.Height) fun x1=>
 if x1=true then
  optE (ZaZ N p_0 at_1.Bits at_1.First at_1.Time) fun x2=>
  some x2
 else
 if (!p_0.Easy)=true then
  some at_1.Bits
 else
 if (decide ((w64 (time_2-at_1.Time))>(w64 (2*p_0.Spacing))))=true then
  some p_0.Limit
 else
 some at_1.Hard
theorem Zde.snd {p_0:Zag} {at_1:ZbV} {time_2:Int} {r:Int} (h:Zde N p_0 at_1 time_2=some r):SndQ Tryz.prog 149 [.agg p_0.ls,.agg at_1.ls,oI time_2] (Zde.rs r):=fun st=>
 sO Zde.B Tryz.func149 fun g0 w0 R hE=>by
  unfold Zde at h
  refine iteB h (fun c1 h1=>?_) (fun c1 h2=>?_)
  ·obtain rfl:=Zaa h1
   exact af fol hE [.r [],.r [],.c true,.r []] [] 0 [] c1
  ·obtain ⟨x1,c2,h3⟩:=Zac h2
   let o1:List PS:=[.r [],.r [],.c false,.r [(3,q1 [oB x1])]]
   have t1 {Q:Prop} (q:Q):=aJ c1 (ZbZ.snd c2) q
   refine iteB h3 (fun c3 h4=>?_) (fun c3 h5=>?_)
   ·obtain ⟨x2,c4,h6⟩:=Zac h4
    obtain rfl:=Zaa h6
    exact af fol hE (o1 ++ [.c true,.r [(7,q1 [oI x2])]]) [] 0 [] (t1 (aI c3 (ZaZ.snd c4)))
   ·refine iteB h5 (fun c5 h7=>?_) (fun c5 h8=>?_)
    ·obtain rfl:=Zaa h7
     exact af fol hE (o1 ++ [.c false,.r [],.c true,.r []]) [] 0 [] (t1 (aI c3 c5))
    ·refine iteB h8 (fun c6 h9=>?_) (fun c6 h10=>?_)
     ·obtain rfl:=Zaa h9
      exact af fol hE (o1 ++ [.c false,.r [],.c false,.r [],.c true,.r []]) [] 0 [] (t1 (aJ c3 c5 c6))
     ·obtain rfl:=Zaa h10
      exact af fol hE (o1 ++ [.c false,.r [],.c false,.r [],.c false,.r []]) [] 0 [] (t1 (aJ c3 c5 c6))
noncomputable def ZaT.B:Code:=Tryz.f217.body.getD .skip
noncomputable def ZaT.rs (r:(List Int)):List CV:=[.agg [L.arr .u64 4 r]]
noncomputable def ZaT.p1 (N:Nat) (h_0_0:List Int) (c1_:(Int×(List Int))→Option (List Int)):(Int×(List Int))→Option (List Int):=fun (v1,out_2)=>
 if (decide (v1<32))=true then
  chk (0≤v1)<|
  chk (0≤(w64 (Int.tdiv v1 8)))<|
  chk ((w64 (Int.tdiv v1 8))<4)<|
  chk (0≤(w64 (8*(Int.tmod v1 8))))<|
  c1_ (w64 (v1+1),List.set out_2 (Int.toNat (w64 (Int.tdiv v1 8))) (bitsOf .or .u64 (List.getD out_2 (Int.toNat (w64 (Int.tdiv v1 8))) 0) (shlOf .u64 (v64 (List.getD h_0_0 (Int.toNat v1) 0)) (w64 (8*(Int.tmod v1 8))))))
 else
 some out_2
noncomputable def ZaT (N:Nat) (h_0_0:List Int):Option (List Int):=
 loopN (ZaT.p1 N h_0_0) N (0,List.replicate 4 0)
noncomputable def ZaT.p1.S (h_0_0:List Int) (v1:Int) (out_2:List Int) (st:LL):S:=mkS 25 [(2,sA 2),(3,sA 3),(6,.agg [.l (L.arr .u8 32 h_0_0)]),(7,sI v1)] [(2,.cells [L.arr .u64 4 (List.replicate 4 0)]),(3,.cells [L.arr .u64 4 out_2])] st
theorem ZaT.p1_ok {h_0_0 v1 out_2 st r c1_ J1} (h:ZaT.p1 N h_0_0 c1_ (v1,out_2)=some r) (hE:En Tryz.f217 g0 w0 (ZaT.rs r) st R) (hc1 : ∀v1 out_2,c1_ (v1,out_2)=some r→At g0 w0 (ZaT.p1.S h_0_0 v1 out_2 st) J1):At g0 w0 (ZaT.p1.S h_0_0 v1 out_2 st) (XK Tryz.prog R (.c (csub ZaT.B [1,1,0,1,0,0]) :: .h J1 :: [.b 0,.c (csub ZaT.B [1,1,1])])):=by
 unfold ZaT.p1 at h
 refine iteB h (fun c6 h1=>?_) (fun c6 h2=>?_)
 ·obtain ⟨c7,c8,c9,c10,h3⟩:=ck4 h1
  exact and_ fol [.r [],.c true,.r [],.d {ds:=[],hv:=4096,Hs:=[4096]},.r []] [2,3,6,7] [2,3] (aO c6 c7 (oD c6) (neI 8) c8 c9 (neI 8) (aJ c10 c8 c9)) (hc1 (w64 (v1+1)) (List.set out_2 (Int.toNat (w64 (Int.tdiv v1 8))) (bitsOf .or .u64 (List.getD out_2 (Int.toNat (w64 (Int.tdiv v1 8))) 0) (shlOf .u64 (v64 (List.getD h_0_0 (Int.toNat v1) 0)) (w64 (8*(Int.tmod v1 8)))))) h3)
 ·obtain rfl:=Zaa h2
  exact af fol hE [.r [],.c false,.r []] [] 0 [] c6
theorem ZaT.snd {h_0_0:List Int} {r:(List Int)} (h:ZaT N h_0_0=some r):SndQ Tryz.prog 217 [.agg [L.arr .u8 32 h_0_0]] (ZaT.rs r):=fun st=>
 sO ZaT.B Tryz.func217 fun g0 w0 R hE=>by
  unfold ZaT at h
  exact aq fol [.r [],.r [],.r []] [2,3,6,7] [2,3] trivial (At.loop N (At.loopN (fun y:Int×(List Int)=>ZaT.p1.S h_0_0 y.1 y.2 st) (fun c J hc y h=>ZaT.p1_ok (v1:=y.1) (out_2:=y.2) h hE (fun v1 out_2=>hc (v1,out_2))) N (0,List.replicate 4 0) h))
noncomputable def Zcj.B:Code:=Tryz.f190.body.getD .skip
noncomputable def Zcj.rs (r:Bool):List CV:=[oB r]
noncomputable def Zcj (N:Nat) (h_0_0 target_1_0:List Int):Option Bool:=
 optE (ZaT N h_0_0) fun x1=>
 optE (ZbU N target_1_0 x1) fun x2=>
 some (!x2)
theorem Zcj.snd {h_0_0 target_1_0:List Int} {r:Bool} (h:Zcj N h_0_0 target_1_0=some r):SndQ Tryz.prog 190 [.agg [L.arr .u8 32 h_0_0],.agg [L.arr .u64 4 target_1_0]] (Zcj.rs r):=fun st=>
 sO Zcj.B Tryz.func190 fun g0 w0 R hE=>by
  unfold Zcj at h
  obtain ⟨x1,c1,h1⟩:=Zac h
  obtain ⟨x2,c2,h2⟩:=Zac h1
  obtain rfl:=Zaa h2
  exact afd fol hE [.r [],.d {ds:=[(2,q1 [.agg [L.arr .u64 4 x1]]),(3,q1 [oB x2])],hv:=0,Hs:=[]}] [] 0 [] (aI (ZaT.snd c1) (ZbU.snd c2))
noncomputable def ZcE.B:Code:=Tryz.f150.body.getD .skip
noncomputable def ZcE.rs (r:Int):List CV:=[oI r]
noncomputable def ZcE (N:Nat) (p_0:Zag) (h_1:Zan):Option Int:=
 optE (ZbC N h_1) fun x1=>
 if (!x1)=true then
  some 1
 else
 optE (Zby N h_1.Bits p_0.Limit) fun (x2,x3)=>
 if (!x3)=true then
  some 4
 else
 optE (ZcC N h_1) fun x4=>
 optE (Zcj N x4 x2) fun x5=>
 if (!x5)=true then
  some 4
 else
 some 0
theorem ZcE.snd {p_0:Zag} {h_1:Zan} {r:Int} (h:ZcE N p_0 h_1=some r):SndQ Tryz.prog 150 [.agg p_0.ls,.agg h_1.ls] (ZcE.rs r):=fun st=>
 sO ZcE.B Tryz.func150 fun g0 w0 R hE=>by
  unfold ZcE at h
  obtain ⟨x1,c1,h1⟩:=Zac h
  let o1:List PS:=[.r [],.r [(1,q1 [oB x1])]]
  have t1 {Q:Prop} (q:Q):=aI (ZbC.snd c1) q
  refine iteB h1 (fun c2 h2=>?_) (fun c2 h3=>?_)
  ·obtain rfl:=Zaa h2
   exact af fol hE (o1 ++ [.c true,.r []]) [] 0 [] (t1 c2)
  ·obtain ⟨⟨x2,x3⟩,c3,h4⟩:=Zac h3
   let o2:List PS:=o1 ++ [.c false,.r [(4,q1 [.agg [L.arr .u64 4 x2],oB x3])]]
   have t2 {Q:Prop} (q:Q):=t1 (aJ c2 (Zby.snd c3) q)
   refine iteB h4 (fun c4 h5=>?_) (fun c4 h6=>?_)
   ·obtain rfl:=Zaa h5
    exact afd fol hE (o2 ++ [.d {ds:=[(3,wF),(4,wF),(5,wF),(6,wF),(7,wF)],hv:=0,Hs:=[]},.c true,.r []]) [] 0 [] (t2 (aN (not_false (ZbO c4)) (not_false (ZbO c4)) (not_false (ZbO c4)) (not_false (ZbO c4)) (not_false (ZbO c4)) (not_false (ZbO c4)) eT))
   ·obtain ⟨x4,c5,h7⟩:=Zac h6
    obtain ⟨x5,c6,h8⟩:=Zac h7
    let o3:List PS:=o2 ++ [.d {ds:=[(4,q1 [.agg [L.arr .u8 32 x4]]),(6,q1 [oB x5]),(8,yF)],hv:=0,Hs:=[]}]
    have t3 {Q:Prop} (q:Q):=t2 (aO (not_true (ZbP c4)) (not_true (ZbP c4)) (ZcC.snd c5) (not_true (ZbP c4)) (not_true (ZbP c4)) (Zcj.snd c6) (not_true (ZbP c4)) (aI (not_true (ZbP c4)) q))
    refine iteB h8 (fun c7 h9=>?_) (fun c7 h10=>?_)
    ·obtain rfl:=Zaa h9
     exact afd fol hE (o3 ++ [.c true,.r []]) [] 0 [] (t3 c7)
    ·obtain rfl:=Zaa h10
     exact afd fol hE (o3 ++ [.c false,.r []]) [] 0 [] (t3 c7)
noncomputable def Zdf.B:Code:=Tryz.f162.body.getD .skip
noncomputable def Zdf.rs (r:Int):List CV:=[oI r]
noncomputable def Zdf (N:Nat) (times_0:LL):Option Int:=
 chk (0≤(if (11:Int)<(len times_0) then 11 else (len times_0)))<|
 chk ((Int.toNat (if (11:Int)<(len times_0) then 11 else (len times_0)))≤(List.length times_0))<|
 optE (ZaY N (List.take (Int.toNat (if (11:Int)<(len times_0) then 11 else (len times_0))) (List.drop 0 times_0))) fun x1=>
 if ((len x1)==0)=true then
  some 0
 else
 chk (isI x1=true)<|
 chk (List.length x1<4611686018427387904)<|
 chk (0≤(w64 (Int.tdiv (len x1) 2)))<|
 chk ((w64 (Int.tdiv (len x1) 2))<(len x1))<|
 getE ((sortR x1)[0+(Int.toNat (w64 (Int.tdiv (len x1) 2)))]?) Zdh fun x2=>
 some x2
theorem Zdf.snd {times_0:LL} {r:Int} (h:Zdf N times_0=some r):SndQ Tryz.prog 162 [.one (L.sl 1 times_0)] (Zdf.rs r):=fun st=>
 sO Zdf.B Tryz.func162 fun g0 w0 R hE=>by
  unfold Zdf at h
  obtain ⟨c1,c2,h1⟩:=ck2 h
  obtain ⟨x1,c3,h2⟩:=Zac h1
  let o1:List PS:=[.r [],.r [(5,{rs:=[.row true 1 x1],ns:=[9],m:=1})],.r []]
  have t1 {Q:Prop} (q:Q):=aL c1 (Nat.zero_le (Int.toNat (if (11:Int)<(len times_0) then 11 else (len times_0)))) c2 (ZaY.snd c3) q
  refine iteB h2 (fun c4 h3=>?_) (fun c4 h4=>?_)
  ·obtain rfl:=Zaa h3
   exact af fol hE (o1 ++ [.c true,.r []]) [] 0 [] (t1 c4)
  ·obtain ⟨c5,c6,c7,c8,h5⟩:=ck4 h4
   obtain ⟨x2,c9,h6⟩:=Zdw h5
   obtain rfl:=Zaa h6
   exact af fol hE (o1 ++ [.c false,.r [(1,{m:=7})],.r [(5,{oe:=[L.int .i64 x2]})]]) [] 0 [] (t1 (aO c4 z0 (@rfl _ (List.length x1):(List.length x1)=(List.length x1)) c5 c6 slices_Sort_int.snd (neI 2) (aJ c7 c8 c9)))
noncomputable def Zcm.B:Code:=Tryz.f151.body.getD .skip
noncomputable def Zcm.rs (r:Bool):List CV:=[oB r]
noncomputable def Zcm (N:Nat) (time_0:Int) (times_1:LL):Option Bool:=
 if ((len times_1)==0)=true then
  some true
 else
 optE (Zdf N times_1) fun x1=>
 some (decide (time_0>x1))
theorem Zcm.snd {time_0:Int} {times_1:LL} {r:Bool} (h:Zcm N time_0 times_1=some r):SndQ Tryz.prog 151 [oI time_0,.one (L.sl 1 times_1)] (Zcm.rs r):=fun st=>
 sO Zcm.B Tryz.func151 fun g0 w0 R hE=>by
  unfold Zcm at h
  refine iteB h (fun c1 h1=>?_) (fun c1 h2=>?_)
  ·obtain rfl:=Zaa h1
   exact af fol hE [.r [],.r [(4,wF),(5,wF),(6,wF),(7,wF)]] [] 0 [] (aL c1 c1 c1 c1 c1)
  ·obtain ⟨x1,c2,h3⟩:=Zac h2
   obtain rfl:=Zaa h3
   exact af fol hE [.r [],.r [(6,q1 [oI x1]),(8,yF)]] [] 0 [] (aM c1 c1 c1 (Zdf.snd c2) c1 c1)
noncomputable def ZcF.B:Code:=Tryz.f152.body.getD .skip
noncomputable def ZcF.rs (r:Bool):List CV:=[oB r]
noncomputable def ZcF (N:Nat) (time_0 now_1 future_2:Int):Option Bool:=
 if (decide (future_2≥0))=true then
  if (decide (time_0≤now_1))=true then
   some true
  else
  some (decide ((w64 (time_0-now_1))≤future_2))
 else
 some false
theorem ZcF.snd {time_0 now_1 future_2:Int} {r:Bool} (h:ZcF N time_0 now_1 future_2=some r):SndQ Tryz.prog 152 [oI time_0,oI now_1,oI future_2] (ZcF.rs r):=fun st=>
 sO ZcF.B Tryz.func152 fun g0 w0 R hE=>by
  unfold ZcF at h
  refine iteB h (fun c1 h1=>?_) (fun c1 h2=>?_)
  ·refine iteB h1 (fun c2 h3=>?_) (fun c2 h4=>?_)
   ·obtain rfl:=Zaa h3
    exact af fol hE [.r [],.r [(7,wF),(8,wF),(9,wF),(10,wF),(11,wF)]] [] 0 [] (aO c1 c1 c1 c1 c2 c2 c2 (aL c2 c2 c1 c2 c1))
   ·obtain rfl:=Zaa h4
    exact af fol hE [.r [],.r [(12,yF)]] [] 0 [] (aO c1 c1 c1 c1 c2 c2 c2 (aL c2 c2 c1 c2 c1))
  ·obtain rfl:=Zaa h2
   exact af fol hE [.r [],.r [(3,wF),(4,wF),(5,wF),(6,wF),(12,wF),(13,yF)]] [] 0 [] (aM c1 c1 c1 c1 c1 c1)
noncomputable def ZaG.B:Code:=Tryz.f153.body.getD .skip
noncomputable def ZaG.rs (r:Int):List CV:=[oI r]
noncomputable def ZaG.p2 (N:Nat) (c1_:(Int×Int)→Option Int) (height_0 least_4:Int) (gates_1:LL) (v2:Int):Option Int:=
 c1_ (least_4,w64 (v2+1))
noncomputable def ZaG.p1 (N:Nat) (height_0:Int) (gates_1:LL) (c1_:(Int×Int)→Option Int):(Int×Int)→Option Int:=fun (least_1,v2)=>
 if (decide (v2<(len gates_1)))=true then
  chk (0≤v2)<|
  getE (gates_1[Int.toNat v2]?) Zdi fun x3=>
  if (decide (height_0≥x3.Height))=true then
   ZaG.p2 N c1_ height_0 (if x3.Version>least_1 then x3.Version else least_1) gates_1 v2
  else
  ZaG.p2 N c1_ height_0 least_1 gates_1 v2
 else
 some least_1
noncomputable def ZaG (N:Nat) (height_0:Int) (gates_1:LL):Option Int:=
 loopN (ZaG.p1 N height_0 gates_1) N ((-2147483648),0)
noncomputable def ZaG.p2.S (height_0 least_4:Int) (gates_1:LL) (v2:Int) (st:LL):S:=mkS 24 [(0,sI height_0),(5,sI least_4),(8,sV 2 gates_1),(9,sI (len gates_1)),(10,sI v2)] [] st
noncomputable def ZaG.p1.S (height_0 least_1:Int) (gates_1:LL) (v2:Int) (st:LL):S:=mkS 24 [(0,sI height_0),(5,sI least_1),(8,sV 2 gates_1),(9,sI (len gates_1)),(10,sI v2)] [] st
theorem ZaG.p2_ok {height_0 least_4 gates_1 v2 st r c1_ J1} (h:ZaG.p2 N c1_ height_0 least_4 gates_1 v2=some r) (hE:En Tryz.f153 g0 w0 (ZaG.rs r) st R) (hc1 : ∀least_1 v2,c1_ (least_1,v2)=some r→At g0 w0 (ZaG.p1.S height_0 least_1 gates_1 v2 st) J1):At g0 w0 (ZaG.p2.S height_0 least_4 gates_1 v2 st) (XK Tryz.prog R [.c (csub ZaG.B [1,1,0,1,0,0,1,1,1]),.h J1,.b 0,.c (csub ZaG.B [1,1,1])]):=by
 unfold ZaG.p2 at h
 exact an fol [.r []] [0,5,8,9,10] [] trivial (hc1 least_4 (w64 (v2+1)) h)
theorem ZaG.p1_ok {height_0 least_1 gates_1 v2 st r c1_ J1} (h:ZaG.p1 N height_0 gates_1 c1_ (least_1,v2)=some r) (hE:En Tryz.f153 g0 w0 (ZaG.rs r) st R) (hc1 : ∀least_1 v2,c1_ (least_1,v2)=some r→At g0 w0 (ZaG.p1.S height_0 least_1 gates_1 v2 st) J1):At g0 w0 (ZaG.p1.S height_0 least_1 gates_1 v2 st) (XK Tryz.prog R (.c (csub ZaG.B [1,1,0,1,0,0]) :: .h J1 :: [.b 0,.c (csub ZaG.B [1,1,1])])):=by
 unfold ZaG.p1 at h
 refine iteB h (fun c1 h1=>?_) (fun c1 h2=>?_)
 ·obtain ⟨c2,h3⟩:=ZaU h1
  obtain ⟨x3,c3,h4⟩:=Zdt h3
  let o1:List PS:=[.r [],.c true,.r [(1,{oe:=x3.ls})],.r []]
  refine iteB h4 (fun c4 h5=>?_) (fun c4 h6=>?_)
  ·exact aq fol (o1 ++ [.c true,.r [],.s 4]) [0,5,8,9,10] [] (aL c1 c2 (oD c1) c3 c4) (ZaG.p2_ok h5 hE hc1)
  ·exact aq fol (o1 ++ [.c false,.s 4]) [0,5,8,9,10] [] (aL c1 c2 (oD c1) c3 c4) (ZaG.p2_ok h6 hE hc1)
 ·obtain rfl:=Zaa h2
  exact af fol hE [.r [],.c false,.r []] [] 0 [] c1
theorem ZaG.snd {height_0:Int} {gates_1:LL} {r:Int} (h:ZaG N height_0 gates_1=some r):SndQ Tryz.prog 153 [oI height_0,.one (L.sl 2 gates_1)] (ZaG.rs r):=fun st=>
 sO ZaG.B Tryz.func153 fun g0 w0 R hE=>by
  unfold ZaG at h
  exact aq fol [.r [],.r [],.r []] [0,5,8,9,10] [] trivial (At.loop N (At.loopN (fun y:Int×Int=>ZaG.p1.S height_0 y.1 gates_1 y.2 st) (fun c J hc y h=>ZaG.p1_ok (least_1:=y.1) (v2:=y.2) h hE (fun least_1 v2=>hc (least_1,v2))) N ((-2147483648),0) h))
noncomputable def Zbj.B:Code:=Tryz.f154.body.getD .skip
noncomputable def Zbj.rs (r:Bool):List CV:=[oB r]
noncomputable def Zbj.p1 (N:Nat) (height_0:Int) (checks_2:LL) (id_1_0:List Int) (c1_:Int→Option Bool):Int→Option Bool:=fun v1=>
 if (decide (v1<(len checks_2)))=true then
  chk (0≤v1)<|
  getE (checks_2[Int.toNat v1]?) ZcW fun x2=>
  if (x2.Height==height_0)=true then
   if (!(x2.Id==id_1_0))=true then
    some false
   else
   c1_ (w64 (v1+1))
  else
  c1_ (w64 (v1+1))
 else
 some true
noncomputable def Zbj (N:Nat) (height_0:Int) (id_1_0:List Int) (checks_2:LL):Option Bool:=
 loopN (Zbj.p1 N height_0 checks_2 id_1_0) N 0
noncomputable def Zbj.p1.S (height_0:Int) (checks_2:LL) (v1:Int) (id_1_0:List Int) (st:LL):S:=mkS 26 [(0,sI height_0),(4,sA 4),(9,sV 33 checks_2),(10,sI (len checks_2)),(11,sI v1)] [(4,.cells [L.arr .u8 32 id_1_0])] st
theorem Zbj.p1_ok {height_0 checks_2 v1 id_1_0 st r c1_ J1} (h:Zbj.p1 N height_0 checks_2 id_1_0 c1_ v1=some r) (hE:En Tryz.f154 g0 w0 (Zbj.rs r) st R) (hc1 : ∀v1,c1_ v1=some r→At g0 w0 (Zbj.p1.S height_0 checks_2 v1 id_1_0 st) J1):At g0 w0 (Zbj.p1.S height_0 checks_2 v1 id_1_0 st) (XK Tryz.prog R (.c (csub Zbj.B [1,0,1,0,0]) :: .h J1 :: [.b 0,.c (csub Zbj.B [1,1])])):=by
 unfold Zbj.p1 at h
 refine iteB h (fun c1 h1=>?_) (fun c1 h2=>?_)
 ·obtain ⟨c2,h3⟩:=ZaU h1
  obtain ⟨x2,c3,h4⟩:=Zdo h3
  let o1:List PS:=[.r [],.c true,.r [(1,{oe:=x2.ls})]]
  refine iteB h4 (fun c4 h5=>?_) (fun c4 h6=>?_)
  ·have t1 {Q:Prop} (q:Q):=aO c1 c2 (oD c1) c3 c4 c4 c4 (aJ c4 c4 q)
   refine iteB h5 (fun c5 h7=>?_) (fun c5 h8=>?_)
   ·obtain rfl:=Zaa h7
    exact af fol hE (o1 ++ [.r [],.c true,.r []]) [] 0 [] (t1 c5)
   ·exact an fol (o1 ++ [.r [],.c false,.r []]) [0,4,9,10,11] [4] (t1 c5) (hc1 (w64 (v1+1)) h8)
  ·exact an fol (o1 ++ [.r [(5,wF),(6,wF),(7,wF),(8,wF),(9,yF)],.c false,.r []]) [0,4,9,10,11] [4] (aO c1 c2 (oD c1) c3 c4 c4 c4 (aJ c4 c4 eF)) (hc1 (w64 (v1+1)) h6)
 ·obtain rfl:=Zaa h2
  exact af fol hE [.r [],.c false,.r []] [] 0 [] c1
theorem Zbj.snd {height_0:Int} {id_1_0:List Int} {checks_2:LL} {r:Bool} (h:Zbj N height_0 id_1_0 checks_2=some r):SndQ Tryz.prog 154 [oI height_0,.agg [L.arr .u8 32 id_1_0],.one (L.sl 33 checks_2)] (Zbj.rs r):=fun st=>
 sO Zbj.B Tryz.func154 fun g0 w0 R hE=>by
  unfold Zbj at h
  exact aq fol [.r [],.r []] [0,4,9,10,11] [4] trivial (At.loop N (At.loopN (fun y:Int=>Zbj.p1.S height_0 checks_2 y id_1_0 st) (fun c J hc y h=>Zbj.p1_ok h hE (fun v1=>hc v1)) N 0 h))
noncomputable def ZcQ.B:Code:=Tryz.f92.body.getD .skip
noncomputable def ZcQ.rs (r:Int):List CV:=[oI r]
noncomputable def ZcQ (N:Nat) (p_0:Zag) (at_1:Zav) (h_2:Zan) (now_3:Int):Option Int:=
 optE (ZbC N h_2) fun x1=>
 if (!x1)=true then
  some 1
 else
 if (!(h_2.Prev==at_1.Prev))=true then
  some 2
 else
 optE (Zde N p_0 at_1.Point h_2.Time) fun x2=>
 if (h_2.Bits != x2)=true then
  some 3
 else
 optE (ZcE N p_0 h_2) fun x3=>
 if (x3 != 0)=true then
  some 4
 else
 optE (Zcm N h_2.Time at_1.Times) fun x4=>
 if (!x4)=true then
  some 5
 else
 optE (ZcF N h_2.Time now_3 p_0.Future) fun x5=>
 if (!x5)=true then
  some 6
 else
 optE (ZaG N at_1.Point.Height p_0.Gates) fun x6=>
 if (decide (h_2.Version<x6))=true then
  some 7
 else
 optE (ZcC N h_2) fun x7=>
 optE (Zbj N at_1.Point.Height x7 p_0.Checks) fun x8=>
 if (!x8)=true then
  some 8
 else
 some 0
theorem ZcQ.snd {p_0:Zag} {at_1:Zav} {h_2:Zan} {now_3:Int} {r:Int} (h:ZcQ N p_0 at_1 h_2 now_3=some r):SndQ Tryz.prog 92 [.agg p_0.ls,.agg at_1.ls,.agg h_2.ls,oI now_3] (ZcQ.rs r):=fun st=>
 sO ZcQ.B Tryz.func92 fun g0 w0 R hE=>by
  unfold ZcQ at h
  obtain ⟨x1,c1,h1⟩:=Zac h
  let o1:List PS:=[.r [],.r [(1,q1 [oB x1])]]
  have t1 {Q:Prop} (q:Q):=aI (ZbC.snd c1) q
  refine iteB h1 (fun c2 h2=>?_) (fun c2 h3=>?_)
  ·obtain rfl:=Zaa h2
   exact af fol hE (o1 ++ [.c true,.r []]) [] 0 [] (t1 c2)
  ·let o2:List PS:=o1 ++ [.c false,.r []]
   refine iteB h3 (fun c3 h4=>?_) (fun c3 h5=>?_)
   ·obtain rfl:=Zaa h4
    exact af fol hE (o2 ++ [.c true,.r []]) [] 0 [] (t1 (aI c2 c3))
   ·obtain ⟨x2,c4,h6⟩:=Zac h5
    let o3:List PS:=o2 ++ [.c false,.d {ds:=[(7,q1 [oI x2])],hv:=0,Hs:=[]}]
    have t2 {Q:Prop} (q:Q):=t1 (aK c2 c3 (Zde.snd c4) q)
    refine iteB h6 (fun c5 h7=>?_) (fun c5 h8=>?_)
    ·obtain rfl:=Zaa h7
     exact afd fol hE (o3 ++ [.c true,.r []]) [] 0 [] (t2 c5)
    ·obtain ⟨x3,c6,h9⟩:=Zac h8
     let o4:List PS:=o3 ++ [.c false,.r [(2,q1 [oI x3])]]
     have t3 {Q:Prop} (q:Q):=t2 (aJ c5 (ZcE.snd c6) q)
     refine iteB h9 (fun c7 h10=>?_) (fun c7 h11=>?_)
     ·obtain rfl:=Zaa h10
      exact afd fol hE (o4 ++ [.c true,.r []]) [] 0 [] (t3 c7)
     ·obtain ⟨x4,c8,h12⟩:=Zac h11
      let o5:List PS:=o4 ++ [.c false,.r [(4,q1 [oB x4])]]
      have t4 {Q:Prop} (q:Q):=t3 (aJ c7 (Zcm.snd c8) q)
      refine iteB h12 (fun c9 h13=>?_) (fun c9 h14=>?_)
      ·obtain rfl:=Zaa h13
       exact afd fol hE (o5 ++ [.c true,.r []]) [] 0 [] (t4 c9)
      ·obtain ⟨x5,c10,h15⟩:=Zac h14
       let o6:List PS:=o5 ++ [.c false,.r [(5,q1 [oB x5])]]
       have t5 {Q:Prop} (q:Q):=t4 (aJ c9 (ZcF.snd c10) q)
       refine iteB h15 (fun c11 h16=>?_) (fun c11 h17=>?_)
       ·obtain rfl:=Zaa h16
        exact afd fol hE (o6 ++ [.c true,.r []]) [] 0 [] (t5 c11)
       ·obtain ⟨x6,c12,h18⟩:=Zac h17
        let o7:List PS:=o6 ++ [.c false,.d {ds:=[(7,q1 [oI x6])],hv:=0,Hs:=[]}]
        have t6 {Q:Prop} (q:Q):=t5 (aJ c11 (ZaG.snd c12) q)
        refine iteB h18 (fun c13 h19=>?_) (fun c13 h20=>?_)
        ·obtain rfl:=Zaa h19
         exact afd fol hE (o7 ++ [.c true,.r []]) [] 0 [] (t6 c13)
        ·obtain ⟨x7,c14,h21⟩:=Zac h20
         obtain ⟨x8,c15,h22⟩:=Zac h21
         let o8:List PS:=o7 ++ [.c false,.d {ds:=[(4,q1 [.agg [L.arr .u8 32 x7]]),(7,q1 [oB x8])],hv:=0,Hs:=[]}]
         have t7 {Q:Prop} (q:Q):=t6 (aK c13 (ZcC.snd c14) (Zbj.snd c15) q)
         refine iteB h22 (fun c16 h23=>?_) (fun c16 h24=>?_)
         ·obtain rfl:=Zaa h23
          exact afd fol hE (o8 ++ [.c true,.r []]) [] 0 [] (t7 c16)
         ·obtain rfl:=Zaa h24
          exact afd fol hE (o8 ++ [.c false,.r []]) [] 0 [] (t7 c16)
noncomputable def Zas.B:Code:=Tryz.f26.body.getD .skip
noncomputable def Zas.rs (r:Int×Int×Int×LL):List CV:=[oI r.1,oI r.2.1,oI r.2.2.1]
noncomputable def Zas.p2 (N:Nat) (i2:Nat) (now_2 ahead_12:Int) (is_13:Bool) (h_1:Zan) (st:LL):Option (Int×Int×Int×LL):=
 if (!is_13)=true then
  some ((-1),2,5,st)
 else
 getE (st[i2]?) ZaF fun x14=>
 chk (0≤ahead_12)<|
 chk (ahead_12<(len x14.spots))<|
 getE (x14.spots[0+(Int.toNat ahead_12)]?) Zdn fun x15=>
 optE (ZcQ N x14.rules x15 h_1 now_2) fun x16=>
 if (x16 != 0)=true then
  some ((-1),x16,8,st)
 else
 if (decide ((len x14.list)≥x14.room))=true then
  some ((-1),0,6,st)
 else
 optE (Zcp N x14.rules x15 h_1) fun x17=>
 optE (ZaE N (some i2) h_1 ahead_12 x17 st) fun (x18,st19)=>
 some (x18,0,0,st19)
noncomputable def Zas.p1 (N:Nat) (i2:Nat) (now_2 at_7:Int) (is_8:Bool) (h_1:Zan) (st:LL):Option (Int×Int×Int×LL):=
 if is_8=true then
  some (at_7,0,0,st)
 else
 getE (st[i2]?) ZaF fun x9=>
 optM (mfind x9.places (L.arr .u8 32 h_1.Prev)) (fun j10 e=>Zdh [e] fun x11=>
  Zas.p2 N i2 now_2 x11 true h_1 st)
 (
  Zas.p2 N i2 now_2 0 false h_1 st)
noncomputable def Zas (N:Nat) (a_0:Option Nat) (h_1:Zan) (now_2:Int) (st:LL):Option (Int×Int×Int×LL):=
 if (Option.isNone a_0)=true then
  some ((-1),0,2,st)
 else
 optE (ZbC N h_1) fun x1=>
 if (!x1)=true then
  some ((-1),1,8,st)
 else
 optE a_0 fun i2=>
 getE (st[i2]?) ZaF fun x3=>
 optE (ZcC N h_1) fun x4=>
 optM (mfind x3.places (L.arr .u8 32 x4)) (fun j5 e=>Zdh [e] fun x6=>
  Zas.p1 N i2 now_2 x6 true h_1 st)
 (
  Zas.p1 N i2 now_2 0 false h_1 st)
noncomputable def Zas.p2.S (i2:Nat) (now_2 ahead_12:Int) (is_13:Bool) (h_1:Zan) (st:LL):S:=mkS 87 [(0,sP (some i2)),(2,sI now_2),(4,sA 4),(11,sI ahead_12),(12,.one (.l (L.bool is_13)))] [(4,.cells h_1.ls)] st
noncomputable def Zas.p1.S (i2:Nat) (now_2 at_7:Int) (is_8:Bool) (h_1:Zan) (st:LL):S:=mkS 87 [(0,sP (some i2)),(2,sI now_2),(4,sA 4),(9,sI at_7),(10,.one (.l (L.bool is_8)))] [(4,.cells h_1.ls)] st
theorem Zas.p2_ok {i2 now_2 ahead_12 is_13 h_1 st r} (h:Zas.p2 N i2 now_2 ahead_12 is_13 h_1 st=some r) (hE:En Tryz.f26 g0 w0 (Zas.rs r) r.2.2.2 R):At g0 w0 (Zas.p2.S i2 now_2 ahead_12 is_13 h_1 st) (XK Tryz.prog R [.c (csub Zas.B [1,1,1,1,1])]):=by
 unfold Zas.p2 at h
 refine iteB h (fun c11 h1=>?_) (fun c11 h2=>?_)
 ·obtain rfl:=Zaa h1
  exact af fol hE [.r [],.c true,.r []] [] 0 [] c11
 ·obtain ⟨x14,c12,h3⟩:=ZaA h2
  obtain ⟨c13,c14,h4⟩:=ck2 h3
  obtain ⟨x15,c15,h5⟩:=ZdJ h4
  obtain ⟨x16,c16,h6⟩:=Zac h5
  let o1:List PS:=[.r [],.c false,.d {ds:=[(3,{oc:=x14.lo}),(7,{oc:=x14.lo}),(10,{oc:=x14.lo,oe:=x15.ls}),(13,q1 [oI x16])],hv:=0,Hs:=[]},.r []]
  have t1 {Q:Prop} (q:Q):=aO c11 c12 c12 c13 c14 c15 c12 (aI (ZcQ.snd c16) q)
  refine iteB h6 (fun c17 h7=>?_) (fun c17 h8=>?_)
  ·obtain rfl:=Zaa h7
   exact afd fol hE (o1 ++ [.c true,.r []]) [] 0 [] (t1 c17)
  ·let o2:List PS:=o1 ++ [.c false,.d {ds:=[(3,{oc:=x14.lo}),(8,{oc:=x14.lo})],hv:=0,Hs:=[]}]
   refine iteB h8 (fun c18 h9=>?_) (fun c18 h10=>?_)
   ·obtain rfl:=Zaa h9
    exact afd fol hE (o2 ++ [.c true,.r []]) [] 0 [] (t1 (aK c17 c12 c12 c18))
   ·obtain ⟨x17,c19,h11⟩:=Zac h10
    obtain ⟨⟨x18,st19⟩,c20,h12⟩:=Zac h11
    obtain rfl:=Zaa h12
    exact afd fol hE (o2 ++ [.c false,.d {ds:=[(6,{oc:=x14.lo}),(10,{oc:=x14.lo}),(13,{oc:=x14.lo,oe:=x15.ls}),(15,q1 [.agg x17.ls]),(16,{rs:=[oI x18],st:=st19})],hv:=65536,Hs:=[65536]}]) [] 0 [] (t1 (aO c17 c12 c12 c18 c12 c12 c13 (aL c14 c15 c12 (Zcp.snd c19) (ZaE.snd c20))))
theorem Zas.p1_ok {i2 now_2 at_7 is_8 h_1 st r} (h:Zas.p1 N i2 now_2 at_7 is_8 h_1 st=some r) (hE:En Tryz.f26 g0 w0 (Zas.rs r) r.2.2.2 R):At g0 w0 (Zas.p1.S i2 now_2 at_7 is_8 h_1 st) (XK Tryz.prog R [.c (csub Zas.B [1,1,1,0,1]),.c (csub Zas.B [1,1,1,1])]):=by
 unfold Zas.p1 at h
 refine iteB h (fun c8 h13=>?_) (fun c8 h14=>?_)
 ·obtain rfl:=Zaa h13
  exact af fol hE [.r [],.c true,.r []] [] 0 [] c8
 ·obtain ⟨x9,c9,h15⟩:=ZaA h14
  rcases Zfr h15 with ⟨j10,h19,c10,h16⟩ | ⟨c10,h17⟩
  ·obtain ⟨x11,h20,h18⟩:=Zec h16
   obtain rfl:=Zek h20
   exact aqd fol [.r [],.c false,.d {ds:=[(3,{oc:=x9.lo}),(6,{oc:=x9.lo,oe:=[L.int .i64 x11]})],hv:=0,Hs:=[]},.s 1] [0,2,4,11,12] [4] (aK c8 c9 (ZhJ c10) c9) (Zas.p2_ok h18 hE)
  ·exact aqd fol [.r [],.c false,.d {ds:=[(3,{oc:=x9.lo}),(6,{oc:=x9.lo,yes:=false})],hv:=0,Hs:=[]},.s 1] [0,2,4,11,12] [4] (aK c8 c9 c10 c9) (Zas.p2_ok h17 hE)
theorem Zas.snd {a_0:Option Nat} {h_1:Zan} {now_2:Int} {st:LL} {r:Int×Int×Int×LL} (h:Zas N a_0 h_1 now_2 st=some r):Snd Tryz.prog 26 [.one (L.ptr a_0),.agg h_1.ls,oI now_2] st (Zas.rs r) r.2.2.2:=
 sO Zas.B Tryz.func26 fun g0 w0 R hE=>by
  unfold Zas at h
  refine iteB h (fun c1 h21=>?_) (fun c1 h22=>?_)
  ·obtain rfl:=Zaa h21
   exact af fol hE [.r [],.r [],.c true,.r []] [] 0 [] c1
  ·obtain ⟨x1,c2,h23⟩:=Zac h22
   let o3:List PS:=[.r [],.r [],.c false,.r [(1,q1 [oB x1])]]
   have t2 {Q:Prop} (q:Q):=aJ c1 (ZbC.snd c2) q
   refine iteB h23 (fun c3 h24=>?_) (fun c3 h25=>?_)
   ·obtain rfl:=Zaa h24
    exact af fol hE (o3 ++ [.c true,.r []]) [] 0 [] (t2 c3)
   ·obtain ⟨i2,rfl,h26⟩:=Zac h25
    obtain ⟨x3,c5,h27⟩:=ZaA h26
    obtain ⟨x4,c6,h28⟩:=Zac h27
    rcases Zfr h28 with ⟨j5,h32,c7,h29⟩ | ⟨c7,h30⟩
    ·obtain ⟨x6,h33,h31⟩:=Zec h29
     obtain rfl:=Zek h33
     exact aqd fol (o3 ++ [.c false,.d {ds:=[(3,{oc:=x3.lo}),(5,q1 [.agg [L.arr .u8 32 x4]]),(6,{oc:=x3.lo,oe:=[L.int .i64 x6]})],hv:=0,Hs:=[]},.s 2]) [0,2,4,9,10] [4] (t2 (aL c3 c5 (ZcC.snd c6) (ZhJ c7) c5)) (Zas.p1_ok h31 hE)
    ·exact aqd fol (o3 ++ [.c false,.d {ds:=[(3,{oc:=x3.lo}),(5,q1 [.agg [L.arr .u8 32 x4]]),(6,{oc:=x3.lo,yes:=false})],hv:=0,Hs:=[]},.s 2]) [0,2,4,9,10] [4] (t2 (aL c3 c5 (ZcC.snd c6) c7 c5)) (Zas.p1_ok h30 hE)
noncomputable def ZcA.B:Code:=Tryz.f28.body.getD .skip
noncomputable def ZcA.rs (r:Zbl×Bool×LL):List CV:=[.agg r.1.ls,oB r.2.1]
noncomputable def ZcA (N:Nat) (t_0:Option Nat) (at_1:Int) (st:LL):Option (Zbl×Bool×LL):=
 if (Option.isNone t_0)=true then
  some (Zbl.mk (Zan.mk 0 (List.replicate 32 0) (List.replicate 32 0) 0 0 0) (List.replicate 32 0) (-1) 0 (List.replicate 4 0),false,st)
 else
 optE t_0 fun i1=>
 getE (st[i1]?) ZbF fun x2 x3=>
 optE x2 fun i4=>
 getE (st[i4]?) ZaF fun x5=>
 optE (ZaW N x5 at_1) fun (x6,x7)=>
 some (x6,x7,st)
theorem ZcA.snd {t_0:Option Nat} {at_1:Int} {st:LL} {r:Zbl×Bool×LL} (h:ZcA N t_0 at_1 st=some r):Snd Tryz.prog 28 [.one (L.ptr t_0),oI at_1] st (ZcA.rs r) r.2.2:=
 sO ZcA.B Tryz.func28 fun g0 w0 R hE=>by
  unfold ZcA at h
  refine iteB h (fun c1 h1=>?_) (fun c1 h2=>?_)
  ·obtain rfl:=Zaa h1
   exact af fol hE [.r [],.r [],.c true,.r []] [] 0 [] c1
  ·obtain ⟨i1,rfl,h3⟩:=Zac h2
   obtain ⟨x2,x3,c3,h4⟩:=Zbt h3
   obtain ⟨i4,rfl,h5⟩:=Zac h4
   obtain ⟨x5,c5,h6⟩:=ZaA h5
   obtain ⟨⟨x6,x7⟩,c6,h7⟩:=Zac h6
   obtain rfl:=Zaa h7
   exact af fol hE [.r [],.r [],.c false,.r [(3,{oc:=[L.ptr (some i4),L.own true 1 x3]}),(5,{rs:=[.agg x6.ls,oB x7],m:=10,cv:=[.one (L.bx 87 x5.ls)]})]] [] 0 [] (aK c1 c3 (bO 87 c5 (Zal.bv x5)) (ZaW.snd c6))
noncomputable def ZbX.B:Code:=Tryz.f98.body.getD .skip
noncomputable def ZbX.rs (r:Int×LL):List CV:=[oI r.1]
noncomputable def ZbX (N:Nat) (t_0:Option Nat) (at_1:Int) (st:LL):Option (Int×LL):=
 optE (ZcA N t_0 at_1 st) fun (x1,x2,st3)=>
 if (!x2)=true then
  some ((-1),st3)
 else
 some (x1.Height,st3)
theorem ZbX.snd {t_0:Option Nat} {at_1:Int} {st:LL} {r:Int×LL} (h:ZbX N t_0 at_1 st=some r):Snd Tryz.prog 98 [.one (L.ptr t_0),oI at_1] st (ZbX.rs r) r.2:=
 sO ZbX.B Tryz.func98 fun g0 w0 R hE=>by
  unfold ZbX at h
  obtain ⟨⟨x1,x2,st3⟩,c1,h1⟩:=Zac h
  let o1:List PS:=[.r [],.r [(2,{rs:=[.agg x1.ls,oB x2],st:=st3})],.r []]
  refine iteB h1 (fun c2 h2=>?_) (fun c2 h3=>?_)
  ·obtain rfl:=Zaa h2
   exact af fol hE (o1 ++ [.c true,.r []]) [] 0 [] (aI (ZcA.snd c1) c2)
  ·obtain rfl:=Zaa h3
   exact af fol hE (o1 ++ [.c false,.r []]) [] 0 [] (aI (ZcA.snd c1) c2)
noncomputable def Zau.B:Code:=Tryz.f47.body.getD .skip
noncomputable def Zau.rs (r:Int×LL):List CV:=[oI r.1]
noncomputable def Zau.p2 (N:Nat) (c1_:((Option Nat)×Int×Int×LL)→Option (Int×LL)) (i26:Nat) (height_2 next_35 x33 x34:Int) (st25:LL):Option (Int×LL):=
 getE (st25[i26]?) ZbF fun x36 x37=>
 optE x36 fun i38=>
 getE (st25[i38]?) ZaF fun x39=>
 optE (ZaH N (Zaj.mk x39 x37) next_35) fun x40=>
 c1_ ((some i26),next_35,x40,st25)
noncomputable def Zau.p1 (N:Nat) (height_2:Int) (c1_:((Option Nat)×Int×Int×LL)→Option (Int×LL)):((Option Nat)×Int×Int×LL)→Option (Int×LL):=fun (t_24,at_3,h_4,st25)=>
 if (decide (h_4>height_2))=true then
  optE t_24 fun i26=>
  getE (st25[i26]?) ZbF fun x27 x28=>
  optE x27 fun i29=>
  getE (st25[i29]?) ZaF fun x30=>
  optE (Zbf N (Zaj.mk x30 x28) at_3) fun (x31,x32)=>
  chk (0≤at_3)<|
  chk (at_3<(len x28))<|
  getE (x28[0+(Int.toNat at_3)]?) Zdh fun x33=>
  if (x33 != (-1))=true then
   optE (ZaH N (Zaj.mk x30 x28) x33) fun x34=>
   if (decide (x34≥height_2))=true then
    Zau.p2 N c1_ i26 height_2 x33 x33 x34 st25
   else
   Zau.p2 N c1_ i26 height_2 x31.Ahead x33 x34 st25
  else
  optE (ZaH N (Zaj.mk x30 x28) x31.Ahead) fun x41=>
  c1_ ((some i26),x31.Ahead,x41,st25)
 else
 some (at_3,st25)
noncomputable def Zau (N:Nat) (t_0:Option Nat) (at_1 height_2:Int) (st:LL):Option (Int×LL):=
 optE (ZbX N t_0 at_1 st) fun (x1,st2)=>
 if (decide (height_2<0))=true then
  some ((-1),st2)
 else
 if (decide (height_2>x1))=true then
  some ((-1),st2)
 else
 loopN (Zau.p1 N height_2) N (t_0,at_1,x1,st2)
noncomputable def Zau.p2.S (i26:Nat) (height_2 next_35 x33 x34:Int) (st25:LL):S:=mkS 55 [(0,sP (some i26)),(2,sI height_2),(10,sI next_35),(43,sP (some i26)),(44,sI x33),(45,sI x34),(46,sI height_2),(47,.one (.l (L.bool (decide (x34≥height_2)))))] [] st25
noncomputable def Zau.p1.S (t_24:Option Nat) (at_3 height_2 h_4:Int) (st25:LL):S:=mkS 55 [(0,sP t_24),(1,sI at_3),(2,sI height_2),(7,sI h_4)] [] st25
theorem Zau.p2_ok {i26 height_2 next_35 x33 x34 st25 r c1_ J1} (h:Zau.p2 N c1_ i26 height_2 next_35 x33 x34 st25=some r) (hE:En Tryz.f47 g0 w0 (Zau.rs r) r.2 R) (hc1 : ∀t_24 at_3 h_4 st25,c1_ (t_24,at_3,h_4,st25)=some r→At g0 w0 (Zau.p1.S t_24 at_3 height_2 h_4 st25) J1):At g0 w0 (Zau.p2.S i26 height_2 next_35 x33 x34 st25) (XK Tryz.prog R [.c (csub Zau.B [1,1,1,0,0,0,1,0,1,1,1]),.b 1,.h J1,.b 0,.c (csub Zau.B [1,1,1,1])]):=by
 unfold Zau.p2 at h
 obtain ⟨x36,x37,c35,h1⟩:=Zbt h
 obtain ⟨i38,rfl,h2⟩:=Zac h1
 obtain ⟨x39,c37,h3⟩:=ZaA h2
 obtain ⟨x40,c38,h4⟩:=Zac h3
 exact an fol [.r [(3,{rs:=[oI x40],m:=10,cv:=[.one (L.bx 2 (Zaj.ls (Zaj.mk x39 x37)))]})]] [0,1,2,7] [] (aI (bO 2 c35 ((bC 87 c37 (Zal.bv x39) (bW bN)):BVs st25 [L.ptr (some i38),L.own true 1 x37] (Zaj.ls (Zaj.mk x39 x37)))) (ZaH.snd c38)) (hc1 (some i26) next_35 x40 st25 h4)
theorem Zau.p1_ok {t_24 at_3 height_2 h_4 st25 r c1_ J1} (h:Zau.p1 N height_2 c1_ (t_24,at_3,h_4,st25)=some r) (hE:En Tryz.f47 g0 w0 (Zau.rs r) r.2 R) (hc1 : ∀t_24 at_3 h_4 st25,c1_ (t_24,at_3,h_4,st25)=some r→At g0 w0 (Zau.p1.S t_24 at_3 height_2 h_4 st25) J1):At g0 w0 (Zau.p1.S t_24 at_3 height_2 h_4 st25) (XK Tryz.prog R (.c (csub Zau.B [1,1,1,0,0,0]) :: .h J1 :: [.b 0,.c (csub Zau.B [1,1,1,1])])):=by
 unfold Zau.p1 at h
 refine iteB h (fun c23 h5=>?_) (fun c23 h6=>?_)
 ·obtain ⟨i26,rfl,h7⟩:=Zac h5
  obtain ⟨x27,x28,c25,h8⟩:=Zbt h7
  obtain ⟨i29,rfl,h9⟩:=Zac h8
  obtain ⟨x30,c27,h10⟩:=ZaA h9
  obtain ⟨⟨x31,x32⟩,c28,h11⟩:=Zac h10
  obtain ⟨c29,c30,h12⟩:=ck2 h11
  obtain ⟨x33,c31,h13⟩:=Zdw h12
  let o1:List PS:=[.r [],.c true,.r [(2,{rs:=[.agg x31.ls,oB x32],m:=10,cv:=[.one (L.bx 2 (Zaj.ls (Zaj.mk x30 x28)))]})],.r [],.r [(3,{oc:=[L.ptr (some i29),L.own true 1 x28]}),(6,{oc:=[L.ptr (some i29),L.own true 1 x28],oe:=[L.int .i64 x33]})]]
  have t1 {Q:Prop} (q:Q):=aO c23 (bO 2 c25 ((bC 87 c27 (Zal.bv x30) (bW bN)):BVs st25 [L.ptr (some i29),L.own true 1 x28] (Zaj.ls (Zaj.mk x30 x28)))) (Zbf.snd c28) c25 c29 c30 c31 (aI c25 q)
  refine iteB h13 (fun c32 h14=>?_) (fun c32 h15=>?_)
  ·obtain ⟨x34,c33,h16⟩:=Zac h14
   let o2:List PS:=o1 ++ [.r [(5,{rs:=[oI x34],m:=10,cv:=[.one (L.bx 2 (Zaj.ls (Zaj.mk x30 x28)))]})]]
   have t2 {Q:Prop} (q:Q):=t1 (aO c32 c32 c32 (bO 2 c25 ((bC 87 c27 (Zal.bv x30) (bW bN)):BVs st25 [L.ptr (some i29),L.own true 1 x28] (Zaj.ls (Zaj.mk x30 x28)))) (ZaH.snd c33) c32 c32 (aI c32 q))
   refine iteB h16 (fun c34 h17=>?_) (fun c34 h18=>?_)
   ·exact aq fol (o2 ++ [.c true,.r [],.s 5]) [0,2,10,43,44,45,46,47] [] (t2 c34) (Zau.p2_ok h17 hE hc1)
   ·exact aq fol (o2 ++ [.c false,.s 5]) [0,2,10,43,44,45,46,47] [] (t2 c34) (Zau.p2_ok h18 hE hc1)
  ·obtain ⟨x41,c39,h19⟩:=Zac h15
   exact an fol (o1 ++ [.r [(3,wF),(4,wF),(5,wF),(6,wF),(7,wF),(8,yF)],.c false,.r [(3,{rs:=[oI x41],m:=10,cv:=[.one (L.bx 2 (Zaj.ls (Zaj.mk x30 x28)))]})]]) [0,1,2,7] [] (t1 (aO c32 c32 c32 c32 c32 c32 eF (aI (bO 2 c25 ((bC 87 c27 (Zal.bv x30) (bW bN)):BVs st25 [L.ptr (some i29),L.own true 1 x28] (Zaj.ls (Zaj.mk x30 x28)))) (ZaH.snd c39)))) (hc1 (some i26) x31.Ahead x41 st25 h19)
 ·obtain rfl:=Zaa h6
  exact af fol hE [.r [],.c false,.r []] [] 0 [] c23
theorem Zau.snd {t_0:Option Nat} {at_1 height_2:Int} {st:LL} {r:Int×LL} (h:Zau N t_0 at_1 height_2 st=some r):Snd Tryz.prog 47 [.one (L.ptr t_0),oI at_1,oI height_2] st (Zau.rs r) r.2:=
 sO Zau.B Tryz.func47 fun g0 w0 R hE=>by
  unfold Zau at h
  obtain ⟨⟨x1,st2⟩,c1,h20⟩:=Zac h
  let o3:List PS:=[.r [],.r [(2,{rs:=[oI x1],st:=st2})]]
  have t3 {Q:Prop} (q:Q):=aI (ZbX.snd c1) q
  refine iteB h20 (fun c2 h21=>?_) (fun c2 h22=>?_)
  ·obtain rfl:=Zaa h21
   exact af fol hE (o3 ++ [.r [(3,wF),(4,wF),(5,wF)],.c true,.r []]) [] 0 [] (t3 (aL c2 c2 c2 c2 eT))
  ·refine iteB h22 (fun c3 h23=>?_) (fun c3 h24=>?_)
   ·obtain rfl:=Zaa h23
    exact af fol hE (o3 ++ [.r [(6,yF)],.c true,.r []]) [] 0 [] (t3 (aL c2 c2 c2 c2 c3))
   ·exact aq fol (o3 ++ [.r [(6,yF)],.c false]) [0,1,2,7] [] (t3 (aL c2 c2 c2 c2 c3)) (At.loop N (At.loopN (fun y:(Option Nat)×Int×Int×LL=>Zau.p1.S y.1 y.2.1 height_2 y.2.2.1 y.2.2.2) (fun c J hc y h=>Zau.p1_ok (t_24:=y.1) (at_3:=y.2.1) (h_4:=y.2.2.1) (st25:=y.2.2.2) h hE (fun t_24 at_3 h_4 st25=>hc (t_24,at_3,h_4,st25))) N (t_0,at_1,x1,st2) h24))
noncomputable def Zbd.B:Code:=Tryz.f25.body.getD .skip
noncomputable def Zbd.rs (r:Int×Int×Int×LL):List CV:=[oI r.1,oI r.2.1,oI r.2.2.1]
noncomputable def Zbd.p1 (N:Nat) (x4 x5 x6:Int) (st16:LL):Option (Int×Int×Int×LL):=
 some (x4,x5,x6,st16)
noncomputable def Zbd (N:Nat) (t_0:Option Nat) (h_1:Zan) (now_2:Int) (st:LL):Option (Int×Int×Int×LL):=
 if (Option.isNone t_0)=true then
  some ((-1),0,2,st)
 else
 optE t_0 fun i1=>
 getE (st[i1]?) ZbF fun x2 x3=>
 optE (Zas N x2 h_1 now_2 st) fun (x4,x5,x6,st7)=>
 if (x6==0)=true then
  getE (st7[i1]?) ZbF fun x8 x9=>
  if (x4==(len x9))=true then
   optE x8 fun i10=>
   getE (st7[i10]?) ZaF fun x11=>
   optE (ZaW N x11 x4) fun (x12,x13)=>
   optE (ZbN N x12.Height) fun x14=>
   optE (Zao N (Zaj.mk x11 x9) x12.Ahead x14) fun x15=>
   chk (List.length (x9 ++ [[L.int .i64 x15]])*8≤140737488355328)<|
   Zbd.p1 N x4 x5 x6 (List.set (List.set st7 i1 [L.ptr (some i10),L.gone]) i1 [L.ptr (some i10),L.own true 1 (x9 ++ [[L.int .i64 x15]])])
  else
  Zbd.p1 N x4 x5 x6 st7
 else
 some (x4,x5,x6,st7)
noncomputable def Zbd.p1.S (x4 x5 x6:Int) (st16:LL):S:=mkS 66 [(9,sI x4),(10,sI x5),(11,sI x6)] [] st16
theorem Zbd.p1_ok {x4 x5 x6 st16 r} (h:Zbd.p1 N x4 x5 x6 st16=some r) (hE:En Tryz.f25 g0 w0 (Zbd.rs r) r.2.2.2 R):At g0 w0 (Zbd.p1.S x4 x5 x6 st16) (XK Tryz.prog R [.c (csub Zbd.B [1,1,1,1])]):=by
 unfold Zbd.p1 at h
 obtain rfl:=Zaa h
 exact af fol hE [.r []] [] 0 [] trivial
theorem Zbd.snd {t_0:Option Nat} {h_1:Zan} {now_2:Int} {st:LL} {r:Int×Int×Int×LL} (h:Zbd N t_0 h_1 now_2 st=some r):Snd Tryz.prog 25 [.one (L.ptr t_0),.agg h_1.ls,oI now_2] st (Zbd.rs r) r.2.2.2:=
 sO Zbd.B Tryz.func25 fun g0 w0 R hE=>by
  unfold Zbd at h
  refine iteB h (fun c1 h1=>?_) (fun c1 h2=>?_)
  ·obtain rfl:=Zaa h1
   exact af fol hE [.r [],.r [],.c true,.r []] [] 0 [] c1
  ·obtain ⟨i1,rfl,h3⟩:=Zac h2
   obtain ⟨x2,x3,c3,h4⟩:=Zbt h3
   obtain ⟨⟨x4,x5,x6,st7⟩,c4,h5⟩:=Zac h4
   let o1:List PS:=[.r [],.r [],.c false,.d {ds:=[(3,{oc:=[L.ptr x2,L.own true 1 x3]}),(6,{rs:=[oI x4,oI x5,oI x6],st:=st7})],hv:=64,Hs:=[64]}]
   have t1 {Q:Prop} (q:Q):=aK c1 c3 (Zas.snd c4) q
   refine iteB h5 (fun c5 h6=>?_) (fun c5 h7=>?_)
   ·obtain ⟨x8,x9,c6,h8⟩:=Zbt h6
    refine iteB h8 (fun c7 h9=>?_) (fun c7 h10=>?_)
    ·obtain ⟨i10,rfl,h11⟩:=Zac h9
     obtain ⟨x11,c9,h12⟩:=ZaA h11
     obtain ⟨⟨x12,x13⟩,c10,h13⟩:=Zac h12
     obtain ⟨x14,c11,h14⟩:=Zac h13
     obtain ⟨x15,c12,h15⟩:=Zac h14
     obtain ⟨c13,h16⟩:=ZaU h15
     exact aqd fol (o1 ++ [.r [(7,{oc:=[L.ptr (some i10),L.own true 1 x9]})],.c true,.r [(3,{oc:=[L.ptr (some i10),L.own true 1 x9]}),(5,{rs:=[.agg x12.ls,oB x13],m:=10,cv:=[.one (L.bx 87 x11.ls)]})],.d {ds:=[(4,{oc:=[L.ptr (some i10),L.own true 1 x9]}),(10,q1 [oI x14]),(11,{rs:=[oI x15],m:=10,cv:=[.one (L.bx 2 (Zaj.ls (Zaj.mk x11 x9)))]}),(13,{oe:=[L.ptr (some i10),L.own true 1 x9]}),(16,{oc:=[L.ptr (some i10),L.gone],mv:=[60]})],hv:=79872,Hs:=[2048,6144,14336,79872]},.s 1]) [9,10,11] [] (t1 (aO c5 c5 c5 c5 c5 c6 c5 (aO c5 c5 c7 c6 (bO 87 c9 (Zal.bv x11)) (ZaW.snd c10) c6 (aO c6 c6 (ZbN.snd c11) (bO 2 c6 ((bC 87 c9 (Zal.bv x11) (bW bN)):BVs st7 [L.ptr (some i10),L.own true 1 x9] (Zaj.ls (Zaj.mk x11 x9)))) (Zao.snd c12) z0 (eN (List.length x9)) (aN c6 z0 (eN (1)) c13 (ZaL c6 [L.ptr (some i10),L.gone]) z0 (eN (List.length (x9 ++ [[L.int .i64 x15]])))))))) (Zbd.p1_ok h16 hE)
    ·exact aqd fol (o1 ++ [.r [(7,{oc:=[L.ptr x8,L.own true 1 x9]})],.c false,.s 1]) [9,10,11] [] (t1 (aO c5 c5 c5 c5 c5 c6 c5 (aJ c5 c5 c7))) (Zbd.p1_ok h10 hE)
   ·obtain rfl:=Zaa h7
    exact afd fol hE (o1 ++ [.r [(3,wF),(4,wF),(5,wF),(6,wF),(7,wF),(8,wF),(9,wF),(10,yF)],.c false,.r []]) [] 0 [] (t1 (aO c5 c5 c5 c5 c5 c5 c5 (aI c5 eF)))
noncomputable def Zck.B:Code:=Tryz.f31.body.getD .skip
noncomputable def Zck.rs (r:Zav×Bool):List CV:=[.agg r.1.ls,oB r.2]
noncomputable def Zck (N:Nat) (a_0:Zal) (at_1:Int):Option (Zav×Bool):=
 optE (ZaO N a_0 at_1) fun x1=>
 if (!x1)=true then
  some (Zav.mk (ZbV.mk 0 0 0 0 0) (List.replicate 32 0) [],false)
 else
 chk (0≤at_1)<|
 chk (at_1<(len a_0.spots))<|
 getE (a_0.spots[Int.toNat at_1]?) Zdn fun x2=>
 chk (List.length ([]++x2.Times)*8≤140737488355328)<|
 some ({x2 with Times:=[]++x2.Times},true)
theorem Zck.snd {a_0:Zal} {at_1:Int} {r:Zav×Bool} (h:Zck N a_0 at_1=some r):SndQ Tryz.prog 31 [.one (L.bx 87 a_0.ls),oI at_1] (Zck.rs r):=fun st=>
 sO Zck.B Tryz.func31 fun g0 w0 R hE=>by
  unfold Zck at h
  obtain ⟨x1,c1,h1⟩:=Zac h
  let o1:List PS:=[.r [],.r [(2,q0 [oB x1])]]
  refine iteB h1 (fun c2 h2=>?_) (fun c2 h3=>?_)
  ·obtain rfl:=Zaa h2
   exact af fol hE (o1 ++ [.c true,.r []]) [] 0 [] (aI (ZaO.snd c1) c2)
  ·obtain ⟨c3,c4,h4⟩:=ck2 h3
   obtain ⟨x2,c5,h5⟩:=ZdJ h4
   obtain ⟨c6,h6⟩:=ZaU h5
   obtain rfl:=Zaa h6
   exact af fol hE (o1 ++ [.c false,.r [(3,{oe:=a_0.ls}),(6,{oe:=x2.ls})],.r [(4,{fz:=[21]})],.r []]) [] 0 [] (aO (ZaO.snd c1) c2 (eO a_0.ls) c3 c4 c5 c6 (aI z0 (eN (List.length ([]++x2.Times)))))
noncomputable def ZbT.B:Code:=Tryz.f94.body.getD .skip
noncomputable def ZbT.rs (r:Bool×LL):List CV:=[oB r.1]
noncomputable def ZbT (N:Nat) (a_0:Option Nat) (at_1:Int) (st:LL):Option (Bool×LL):=
 if (!(Option.isNone a_0))=true then
  if (decide (at_1≥0))=true then
   optE a_0 fun i1=>
   getE (st[i1]?) ZaF fun x2=>
   some (decide (at_1<(len x2.list)),st)
  else
  some (false,st)
 else
 some (false,st)
theorem ZbT.snd {a_0:Option Nat} {at_1:Int} {st:LL} {r:Bool×LL} (h:ZbT N a_0 at_1 st=some r):Snd Tryz.prog 94 [.one (L.ptr a_0),oI at_1] st (ZbT.rs r) r.2:=
 sO ZbT.B Tryz.func94 fun g0 w0 R hE=>by
  unfold ZbT at h
  refine iteB h (fun c1 h1=>?_) (fun c1 h2=>?_)
  ·refine iteB h1 (fun c2 h3=>?_) (fun c2 h4=>?_)
   ·obtain ⟨i1,rfl,h5⟩:=Zac h3
    obtain ⟨x2,c4,h6⟩:=ZaA h5
    obtain rfl:=Zaa h6
    exact af fol hE [.r [],.r [(11,{oc:=x2.lo})]] [] 0 [] (aO eT eT eT c2 c2 c2 c2 (aL c2 c4 c2 c2 c2))
   ·obtain rfl:=Zaa h4
    exact af fol hE [.r [],.r [(7,wF),(8,wF),(9,wF),(10,wF),(11,wF),(12,wF),(13,wF),(14,yF)]] [] 0 [] (aO c1 c1 c1 c2 c2 c2 c2 (aK c2 c2 c2 c2))
  ·obtain rfl:=Zaa h2
   exact af fol hE [.r [],.r [(3,wF),(4,wF),(5,yF),(7,wF),(8,wF),(9,wF),(10,wF),(11,wF),(12,wF),(13,wF),(14,yF)]] [] 0 [] (aO c1 c1 c1 eF eF eF eF (aK eF eF eF eF))
noncomputable def Zbz.B:Code:=Tryz.f31.body.getD .skip
noncomputable def Zbz.rs (r:Zav×Bool×LL):List CV:=[.agg r.1.ls,oB r.2.1]
noncomputable def Zbz (N:Nat) (a_0:Option Nat) (at_1:Int) (st:LL):Option (Zav×Bool×LL):=
 optE (ZbT N a_0 at_1 st) fun (x1,st2)=>
 if (!x1)=true then
  some (Zav.mk (ZbV.mk 0 0 0 0 0) (List.replicate 32 0) [],false,st2)
 else
 optE a_0 fun i3=>
 getE (st2[i3]?) ZaF fun x4=>
 chk (0≤at_1)<|
 chk (at_1<(len x4.spots))<|
 getE (x4.spots[0+(Int.toNat at_1)]?) Zdn fun x5=>
 chk (List.length ([]++x5.Times)*8≤140737488355328)<|
 some ({x5 with Times:=[]++x5.Times},true,st2)
theorem Zbz.snd {a_0:Option Nat} {at_1:Int} {st:LL} {r:Zav×Bool×LL} (h:Zbz N a_0 at_1 st=some r):Snd Tryz.prog 31 [.one (L.ptr a_0),oI at_1] st (Zbz.rs r) r.2.2:=
 sO Zbz.B Tryz.func31 fun g0 w0 R hE=>by
  unfold Zbz at h
  obtain ⟨⟨x1,st2⟩,c1,h1⟩:=Zac h
  let o1:List PS:=[.r [],.r [(2,{rs:=[oB x1],st:=st2})]]
  refine iteB h1 (fun c2 h2=>?_) (fun c2 h3=>?_)
  ·obtain rfl:=Zaa h2
   exact af fol hE (o1 ++ [.c true,.r []]) [] 0 [] (aI (ZbT.snd c1) c2)
  ·obtain ⟨i3,rfl,h4⟩:=Zac h3
   obtain ⟨x4,c4,h5⟩:=ZaA h4
   obtain ⟨c5,c6,h6⟩:=ck2 h5
   obtain ⟨x5,c7,h7⟩:=ZdJ h6
   obtain ⟨c8,h8⟩:=ZaU h7
   obtain rfl:=Zaa h8
   exact af fol hE (o1 ++ [.c false,.r [(3,{oc:=x4.lo}),(6,{oc:=x4.lo,oe:=x5.ls})],.r [(4,{fz:=[21]})],.r []]) [] 0 [] (aO (ZbT.snd c1) c2 c4 c5 c6 c7 c4 (aJ c8 z0 (eN (List.length ([]++x5.Times)))))
noncomputable def ZbW.B:Code:=Tryz.f30.body.getD .skip
noncomputable def ZbW.rs (r:Zav×Bool×LL):List CV:=[.agg r.1.ls,oB r.2.1]
noncomputable def ZbW (N:Nat) (t_0:Option Nat) (at_1:Int) (st:LL):Option (Zav×Bool×LL):=
 if (Option.isNone t_0)=true then
  some (Zav.mk (ZbV.mk 0 0 0 0 0) (List.replicate 32 0) [],false,st)
 else
 optE t_0 fun i1=>
 getE (st[i1]?) ZbF fun x2 x3=>
 optE (Zbz N x2 at_1 st) fun (x4,x5,st6)=>
 some (x4,x5,st6)
theorem ZbW.snd {t_0:Option Nat} {at_1:Int} {st:LL} {r:Zav×Bool×LL} (h:ZbW N t_0 at_1 st=some r):Snd Tryz.prog 30 [.one (L.ptr t_0),oI at_1] st (ZbW.rs r) r.2.2:=
 sO ZbW.B Tryz.func30 fun g0 w0 R hE=>by
  unfold ZbW at h
  refine iteB h (fun c1 h1=>?_) (fun c1 h2=>?_)
  ·obtain rfl:=Zaa h1
   exact af fol hE [.r [],.r [],.c true,.r []] [] 0 [] c1
  ·obtain ⟨i1,rfl,h3⟩:=Zac h2
   obtain ⟨x2,x3,c3,h4⟩:=Zbt h3
   obtain ⟨⟨x4,x5,st6⟩,c4,h5⟩:=Zac h4
   obtain rfl:=Zaa h5
   exact af fol hE [.r [],.r [],.c false,.r [(3,{oc:=[L.ptr x2,L.own true 1 x3]}),(5,{rs:=[.agg x4.ls,oB x5],st:=st6})]] [] 0 [] (aJ c1 c3 (Zbz.snd c4))
noncomputable def ZaS.B:Code:=Tryz.f33.body.getD .skip
noncomputable def ZaS.rs (r:Bool):List CV:=[oB r]
noncomputable def ZaS (N:Nat) (a_0:Zal) (x_1 y_2:Int):Option Bool:=
 optE (ZaO N a_0 x_1) fun x1=>
 if (!x1)=true then
  some x1
 else
 optE (ZaO N a_0 y_2) fun x2=>
 if (!x2)=true then
  some x1
 else
 chk (0≤x_1)<|
 chk (x_1<(len a_0.list))<|
 getE (a_0.list[Int.toNat x_1]?) ZcG fun x3=>
 chk (0≤y_2)<|
 chk (y_2<(len a_0.list))<|
 getE (a_0.list[Int.toNat y_2]?) ZcG fun x4=>
 optE (ZaP N x3.Work x4.Work) fun x5=>
 if (decide (x5>0))=true then
  some true
 else
 if (x5==0)=true then
  some (decide (x_1<y_2))
 else
 some false
theorem ZaS.snd {a_0:Zal} {x_1 y_2:Int} {r:Bool} (h:ZaS N a_0 x_1 y_2=some r):SndQ Tryz.prog 33 [.one (L.bx 87 a_0.ls),oI x_1,oI y_2] (ZaS.rs r):=fun st=>
 sO ZaS.B Tryz.func33 fun g0 w0 R hE=>by
  unfold ZaS at h
  obtain ⟨x1,c1,h1⟩:=Zac h
  have t1 {Q:Prop} (q:Q):=aI (ZaO.snd c1) q
  refine iteB h1 (fun c2 h2=>?_) (fun c2 h3=>?_)
  ·obtain rfl:=Zaa h2
   exact af fol hE [.r [],.r [(2,q0 [oB x1]),(5,wF),(6,wF),(7,wF),(8,wF)],.c true,.r [(2,q0 [oB x1])]] [] 0 [] (t1 (aN (not_false (ZbO c2)) (not_false (ZbO c2)) (not_false (ZbO c2)) (not_false (ZbO c2)) (not_false (ZbO c2)) eT (ZaO.snd c1)))
  ·obtain ⟨x2,c3,h4⟩:=Zac h3
   let o1:List PS:=[.r [],.r [(2,q0 [oB x1]),(7,q0 [oB x2]),(9,yF)]]
   have t2 {Q:Prop} (q:Q):=t1 (aN (not_true (ZbP c2)) (not_true (ZbP c2)) (not_true (ZbP c2)) (ZaO.snd c3) (not_true (ZbP c2)) (not_true (ZbP c2)) q)
   refine iteB h4 (fun c4 h5=>?_) (fun c4 h6=>?_)
   ·obtain rfl:=Zaa h5
    exact af fol hE (o1 ++ [.c true,.r [(2,q0 [oB x1])]]) [] 0 [] (t2 (aI c4 (ZaO.snd c1)))
   ·obtain ⟨c5,c6,h7⟩:=ck2 h6
    obtain ⟨x3,c7,h8⟩:=ZcV h7
    obtain ⟨c8,c9,h9⟩:=ck2 h8
    obtain ⟨x4,c10,h10⟩:=ZcV h9
    obtain ⟨x5,c11,h11⟩:=Zac h10
    let o2:List PS:=o1 ++ [.c false,.d {ds:=[(3,{oe:=a_0.ls}),(7,{oe:=x3.ls}),(11,{oe:=a_0.ls}),(15,{oe:=x4.ls}),(16,q1 [oI x5])],hv:=0,Hs:=[]}]
    have t3 {Q:Prop} (q:Q):=t2 (aO c4 (eO a_0.ls) c5 c6 c7 (eO a_0.ls) c8 (aK c9 c10 (ZaP.snd c11) q))
    refine iteB h11 (fun c12 h12=>?_) (fun c12 h13=>?_)
    ·obtain rfl:=Zaa h12
     exact afd fol hE (o2 ++ [.r [(3,wF),(4,wF),(5,wF),(9,wF)]]) [] 0 [] (t3 (aL c12 c12 c12 c12 c12))
    ·refine iteB h13 (fun c13 h14=>?_) (fun c13 h15=>?_)
     ·obtain rfl:=Zaa h14
      exact afd fol hE (o2 ++ [.r [(10,yF)]]) [] 0 [] (t3 (aO c12 c12 c12 c13 c13 c13 c12 (aI c13 c12)))
     ·obtain rfl:=Zaa h15
      exact afd fol hE (o2 ++ [.r [(6,wF),(7,wF),(8,wF),(9,yF),(10,yF)]]) [] 0 [] (t3 (aO c12 c12 c12 c13 c13 c13 c12 (aI c13 c12)))
noncomputable def Zbu.B:Code:=Tryz.f32.body.getD .skip
noncomputable def Zbu.rs (r:Bool):List CV:=[oB r]
noncomputable def Zbu (N:Nat) (t_0:Zaj) (x_1 y_2:Int):Option Bool:=
 optE (ZaS N t_0.store x_1 y_2) fun x1=>
 some x1
theorem Zbu.snd {t_0:Zaj} {x_1 y_2:Int} {r:Bool} (h:Zbu N t_0 x_1 y_2=some r):SndQ Tryz.prog 32 [.one (L.bx 2 t_0.ls),oI x_1,oI y_2] (Zbu.rs r):=fun st=>
 sO Zbu.B Tryz.func32 fun g0 w0 R hE=>by
  unfold Zbu at h
  obtain ⟨x1,c1,h1⟩:=Zac h
  obtain rfl:=Zaa h1
  exact af fol hE [.r [],.r [(6,{oe:=t_0.ls}),(9,q0 [oB x1])]] [] 0 [] (aO eT eT eT eT (eO t_0.ls) eT eT (aJ eT (ZaS.snd c1) eT))
noncomputable def ZcU.B:Code:=Tryz.f34.body.getD .skip
noncomputable def ZcU.rs (r:Int×LL):List CV:=[oI r.1]
noncomputable def ZcU (N:Nat) (t_0:Option Nat) (st:LL):Option (Int×LL):=
 if (Option.isNone t_0)=true then
  some (0,st)
 else
 optE t_0 fun i1=>
 getE (st[i1]?) ZbF fun x2 x3=>
 optE x2 fun i4=>
 getE (st[i4]?) ZaF fun x5=>
 optE (Zbi N x5) fun x6=>
 some (x6,st)
theorem ZcU.snd {t_0:Option Nat} {st:LL} {r:Int×LL} (h:ZcU N t_0 st=some r):Snd Tryz.prog 34 [.one (L.ptr t_0)] st (ZcU.rs r) r.2:=
 sO ZcU.B Tryz.func34 fun g0 w0 R hE=>by
  unfold ZcU at h
  refine iteB h (fun c1 h1=>?_) (fun c1 h2=>?_)
  ·obtain rfl:=Zaa h1
   exact af fol hE [.r [],.r [],.c true,.r []] [] 0 [] c1
  ·obtain ⟨i1,rfl,h3⟩:=Zac h2
   obtain ⟨x2,x3,c3,h4⟩:=Zbt h3
   obtain ⟨i4,rfl,h5⟩:=Zac h4
   obtain ⟨x5,c5,h6⟩:=ZaA h5
   obtain ⟨x6,c6,h7⟩:=Zac h6
   obtain rfl:=Zaa h7
   exact af fol hE [.r [],.r [],.c false,.r [(3,{oc:=[L.ptr (some i4),L.own true 1 x3]}),(4,{rs:=[oI x6],m:=10,cv:=[.one (L.bx 87 x5.ls)]})]] [] 0 [] (aK c1 c3 (bO 87 c5 (Zal.bv x5)) (Zbi.snd c6))
end Go.Dn.F
