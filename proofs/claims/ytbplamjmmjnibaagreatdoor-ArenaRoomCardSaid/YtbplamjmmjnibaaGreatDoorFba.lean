/- Contracts of functions of the program, as shallow functions, and their proofs. -/
import Derived.Test.YtbplamjmmjnibaaGreatDoorFa
import Derived.Test.YtbplamjmmjnibaaGreatDoorFaP
set_option linter.all false
set_option maxRecDepth 100000
namespace Go.Dn.F
open Go.Proofs
variable {N:Nat} {g0:G} {w0:World} {R:Exit→Act→World→Prop}
structure ZbJ where
  Height:Int
  Version:Int
noncomputable def ZbJ.ls (x:ZbJ):List L:=[L.int .i64 x.Height,L.int .i64 x.Version]
noncomputable def ZcN {α:Type} (l:List L) (k:ZbJ→Option α):Option α:=match l with
  | [L.int .i64 x0,L.int .i64 x1]=>k ⟨x0,x1⟩
  | _=>none
theorem ZcX {α:Type} {o:Option (List L)} {k:ZbJ→Option α} {r:α} (h:getE o ZcN k=some r) : ∃x:ZbJ,o=some x.ls∧k x=some r:=by
  obtain ⟨l,e,k1⟩:=Zaf h;subst e;unfold ZcN at k1;split at k1
  · exact ⟨_,rfl,k1⟩
  · cases k1
@[simp] theorem Zdh {α:Type} (x:ZbJ) (k:ZbJ→Option α):ZcN x.ls k=k x:=rfl
theorem ZbJ.bv {st:LL} (x:ZbJ):BVs st x.ls x.ls:=(bP (bP bN))
structure Zbw where
  Height:Int
  Id:List Int
noncomputable def Zbw.ls (x:Zbw):List L:=[L.int .i64 x.Height,L.arr .u8 32 x.Id]
noncomputable def ZcE {α:Type} (l:List L) (k:Zbw→Option α):Option α:=match l with
  | [L.int .i64 x0,L.arr .u8 32 x1]=>k ⟨x0,x1⟩
  | _=>none
theorem ZcT {α:Type} {o:Option (List L)} {k:Zbw→Option α} {r:α} (h:getE o ZcE k=some r) : ∃x:Zbw,o=some x.ls∧k x=some r:=by
  obtain ⟨l,e,k1⟩:=Zaf h;subst e;unfold ZcE at k1;split at k1
  · exact ⟨_,rfl,k1⟩
  · cases k1
@[simp] theorem ZcY {α:Type} (x:Zbw) (k:Zbw→Option α):ZcE x.ls k=k x:=rfl
theorem Zbw.bv {st:LL} (x:Zbw):BVs st x.ls x.ls:=(bP (bP bN))
structure Zan where
  rules:Zal
  list:LL
  spots:LL
  places:LM
  room:Int
noncomputable def Zan.lo (x:Zan):List L:=[L.int .i64 x.rules.Limit,L.int .i64 x.rules.Interval,L.int .i64 x.rules.Spacing,L.int .i64 x.rules.Future,L.bool x.rules.Easy,L.sl 2 x.rules.Gates,L.sl 33 x.rules.Checks,L.arr .u64 4 x.rules.MinWork,L.arr .u64 4 x.rules.Margin,L.int .i64 x.rules.Genesis.Version,L.arr .u8 32 x.rules.Genesis.Prev,L.arr .u8 32 x.rules.Genesis.Root,L.int .i64 x.rules.Genesis.Time,L.int .i64 x.rules.Genesis.Bits,L.int .i64 x.rules.Genesis.Nonce,L.own true 106 x.list,L.own true 38 x.spots,L.mp x.places,L.int .i64 x.room]
noncomputable def Zbq {α:Type} (l:List L) (k:Zan→Option α):Option α:=match l with
  | [L.int .i64 x0,L.int .i64 x1,L.int .i64 x2,L.int .i64 x3,L.bool x4,L.sl 2 x5,L.sl 33 x6,L.arr .u64 4 x7,L.arr .u64 4 x8,L.int .i64 x9,L.arr .u8 32 x10,L.arr .u8 32 x11,L.int .i64 x12,L.int .i64 x13,L.int .i64 x14,L.own true 106 x15,L.own true 38 x16,L.mp x17,L.int .i64 x18]=>k ⟨⟨x0,x1,x2,x3,x4,x5,x6,x7,x8,⟨x9,x10,x11,x12,x13,x14⟩⟩,x15,x16,x17,x18⟩
  | _=>none
theorem Zbo {α:Type} {o:Option (List L)} {k:Zan→Option α} {r:α} (h:getE o Zbq k=some r) : ∃x:Zan,o=some x.lo∧k x=some r:=by
  obtain ⟨l,e,k1⟩:=Zaf h;subst e;unfold Zbq at k1;split at k1
  · exact ⟨_,rfl,k1⟩
  · cases k1
@[simp] theorem Zbs {α:Type} (x:Zan) (k:Zan→Option α):Zbq x.lo k=k x:=rfl
noncomputable def Zan.ls (x:Zan):List L:=[L.int .i64 x.rules.Limit,L.int .i64 x.rules.Interval,L.int .i64 x.rules.Spacing,L.int .i64 x.rules.Future,L.bool x.rules.Easy,L.sl 2 x.rules.Gates,L.sl 33 x.rules.Checks,L.arr .u64 4 x.rules.MinWork,L.arr .u64 4 x.rules.Margin,L.int .i64 x.rules.Genesis.Version,L.arr .u8 32 x.rules.Genesis.Prev,L.arr .u8 32 x.rules.Genesis.Root,L.int .i64 x.rules.Genesis.Time,L.int .i64 x.rules.Genesis.Bits,L.int .i64 x.rules.Genesis.Nonce,L.sl 106 x.list,L.sl 38 x.spots,L.mz x.places,L.int .i64 x.room]
theorem Zan.bv {st:LL} (x:Zan):BVs st x.lo x.ls:=(bP (bP (bP (bP (bP (bS (bS (bP (bP (bP (bP (bP (bP (bP (bP (bW (bW (bM (bP bN)))))))))))))))))))
structure ZbG where
  Header:Zam
  Id:List Int
  Ahead:Int
  Height:Int
  Work:List Int
noncomputable def ZbG.ls (x:ZbG):List L:=[L.int .i64 x.Header.Version,L.arr .u8 32 x.Header.Prev,L.arr .u8 32 x.Header.Root,L.int .i64 x.Header.Time,L.int .i64 x.Header.Bits,L.int .i64 x.Header.Nonce,L.arr .u8 32 x.Id,L.int .i64 x.Ahead,L.int .i64 x.Height,L.arr .u64 4 x.Work]
noncomputable def ZcM {α:Type} (l:List L) (k:ZbG→Option α):Option α:=match l with
  | [L.int .i64 x0,L.arr .u8 32 x1,L.arr .u8 32 x2,L.int .i64 x3,L.int .i64 x4,L.int .i64 x5,L.arr .u8 32 x6,L.int .i64 x7,L.int .i64 x8,L.arr .u64 4 x9]=>k ⟨⟨x0,x1,x2,x3,x4,x5⟩,x6,x7,x8,x9⟩
  | _=>none
theorem ZdJ {α:Type} {o:Option (List L)} {k:ZbG→Option α} {r:α} (h:getE o ZcM k=some r) : ∃x:ZbG,o=some x.ls∧k x=some r:=by
  obtain ⟨l,e,k1⟩:=Zaf h;subst e;unfold ZcM at k1;split at k1
  · exact ⟨_,rfl,k1⟩
  · cases k1
@[simp] theorem ZdQ {α:Type} (x:ZbG) (k:ZbG→Option α):ZcM x.ls k=k x:=rfl
theorem ZbG.bv {st:LL} (x:ZbG):BVs st x.ls x.ls:=(bP (bP (bP (bP (bP (bP (bP (bP (bP (bP bN))))))))))
structure ZaV where
  Header:Zam
  Now:Int
noncomputable def ZaV.ls (x:ZaV):List L:=[L.int .i64 x.Header.Version,L.arr .u8 32 x.Header.Prev,L.arr .u8 32 x.Header.Root,L.int .i64 x.Header.Time,L.int .i64 x.Header.Bits,L.int .i64 x.Header.Nonce,L.int .i64 x.Now]
noncomputable def Zce {α:Type} (l:List L) (k:ZaV→Option α):Option α:=match l with
  | [L.int .i64 x0,L.arr .u8 32 x1,L.arr .u8 32 x2,L.int .i64 x3,L.int .i64 x4,L.int .i64 x5,L.int .i64 x6]=>k ⟨⟨x0,x1,x2,x3,x4,x5⟩,x6⟩
  | _=>none
theorem ZcL {α:Type} {o:Option (List L)} {k:ZaV→Option α} {r:α} (h:getE o Zce k=some r) : ∃x:ZaV,o=some x.ls∧k x=some r:=by
  obtain ⟨l,e,k1⟩:=Zaf h;subst e;unfold Zce at k1;split at k1
  · exact ⟨_,rfl,k1⟩
  · cases k1
@[simp] theorem ZcW {α:Type} (x:ZaV) (k:ZaV→Option α):Zce x.ls k=k x:=rfl
theorem ZaV.bv {st:LL} (x:ZaV):BVs st x.ls x.ls:=(bP (bP (bP (bP (bP (bP (bP bN)))))))
noncomputable def Zfk {α:Type} (l:List L) (k:(List Int)→Option α):Option α:=match l with
  | [L.arr .u64 4 x0]=>k x0
  | _=>none
theorem ZhJ {α:Type} {o:Option (List L)} {k:(List Int)→Option α} {r:α} (h:getE o Zfk k=some r) : ∃x0,o=some [L.arr .u64 4 x0]∧k x0=some r:=by
  obtain ⟨l,e,k1⟩:=Zaf h;subst e;unfold Zfk at k1;split at k1
  · exact ⟨_,rfl,k1⟩
  · cases k1
@[simp] theorem dec_u64x4_ls {α:Type} (x0:List Int) (k:(List Int)→Option α):Zfk [L.arr .u64 4 x0] k=k x0:=rfl
theorem slices_Sort_int.snd:SortC Tryz.prog 119:=slices_Sort_int.holds
theorem Zcw.snd {x y z:Int} {r:Int×Int} (h:Zcw N x y z=some r):ExtI Tryz.prog 137 [(.u64,x),(.u64,y),(.u64,z)] [(.u64,r.1),(.u64,r.2)]:=ZgU Tryz.func137 (by kernel_rfl) (by kernel_rfl) (by kernel_rfl) (by kernel_rfl) h
theorem ZcV.snd {x y z:Int} {r:Int×Int} (h:ZcV N x y z=some r):ExtI Tryz.prog 173 [(.u64,x),(.u64,y),(.u64,z)] [(.u64,r.1),(.u64,r.2)]:=ZgT Tryz.func173 (by kernel_rfl) (by kernel_rfl) (by kernel_rfl) (by kernel_rfl) h
noncomputable def ZbC.B:Code:=Tryz.f113.body.getD .skip
noncomputable def ZbC.rs (r:(List Int)):List CV:=[.agg [L.arr .u64 4 r]]
noncomputable def ZbC (N:Nat) (n_0:Int):Option (List Int):=
 some [n_0,0,0,0]
theorem ZbC.snd {n_0:Int} {r:(List Int)} (h:ZbC N n_0=some r):SndQ Tryz.prog 113 [.one (L.int .u64 n_0)] (ZbC.rs r):=fun st=>
 sO ZbC.B Tryz.func113 fun g0 w0 R hE=>by
  unfold ZbC at h
  obtain rfl:=Zac h
  exact af fol hE [.r [],.r [(1,{m:=3})]] [] 0 [] trivial
noncomputable def ZaL.B:Code:=Tryz.f140.body.getD .skip
noncomputable def ZaL.rs (r:(List Int)):List CV:=[.agg [L.arr .u64 4 r]]
noncomputable def ZaL.p2 (N:Nat) (c1_:(Int×(List Int))→Option (List Int)) (n_1 v1:Int) (a_0_0 out_4:List Int):Option (List Int):=
 c1_ (w64 (v1+1),out_4)
noncomputable def ZaL.p1 (N:Nat) (n_1:Int) (a_0_0:List Int) (c1_:(Int×(List Int))→Option (List Int)):(Int×(List Int))→Option (List Int):=fun (v1,out_3)=>
 if (decide (v1<(w64 (4-(w64 (Int.tdiv (if (0:Int)>n_1 then 0 else n_1) 64))))))=true then
  chk (0≤(w64 (v1+(w64 (Int.tdiv (if (0:Int)>n_1 then 0 else n_1) 64)))))<|
  chk ((w64 (v1+(w64 (Int.tdiv (if (0:Int)>n_1 then 0 else n_1) 64))))<4)<|
  chk (0≤(Int.tmod (if (0:Int)>n_1 then 0 else n_1) 64))<|
  chk (0≤v1)<|
  chk (v1<4)<|
  if (decide ((w64 ((w64 (v1+(w64 (Int.tdiv (if (0:Int)>n_1 then 0 else n_1) 64))))+1))<4))=true then
   chk (0≤(w64 ((w64 (v1+(w64 (Int.tdiv (if (0:Int)>n_1 then 0 else n_1) 64))))+1)))<|
   chk (0≤(w64 (64-(Int.tmod (if (0:Int)>n_1 then 0 else n_1) 64))))<|
   ZaL.p2 N c1_ n_1 v1 a_0_0 (List.set (List.set out_3 (Int.toNat v1) (shrOf .u64 (List.getD a_0_0 (Int.toNat (w64 (v1+(w64 (Int.tdiv (if (0:Int)>n_1 then 0 else n_1) 64))))) 0) (Int.tmod (if (0:Int)>n_1 then 0 else n_1) 64))) (Int.toNat v1) (bitsOf .or .u64 (List.getD (List.set out_3 (Int.toNat v1) (shrOf .u64 (List.getD a_0_0 (Int.toNat (w64 (v1+(w64 (Int.tdiv (if (0:Int)>n_1 then 0 else n_1) 64))))) 0) (Int.tmod (if (0:Int)>n_1 then 0 else n_1) 64))) (Int.toNat v1) 0) (shlOf .u64 (List.getD a_0_0 (Int.toNat (w64 ((w64 (v1+(w64 (Int.tdiv (if (0:Int)>n_1 then 0 else n_1) 64))))+1))) 0) (w64 (64-(Int.tmod (if (0:Int)>n_1 then 0 else n_1) 64))))))
  else
  ZaL.p2 N c1_ n_1 v1 a_0_0 (List.set out_3 (Int.toNat v1) (shrOf .u64 (List.getD a_0_0 (Int.toNat (w64 (v1+(w64 (Int.tdiv (if (0:Int)>n_1 then 0 else n_1) 64))))) 0) (Int.tmod (if (0:Int)>n_1 then 0 else n_1) 64)))
 else
 some out_3
noncomputable def ZaL (N:Nat) (a_0_0:List Int) (n_1:Int):Option (List Int):=
 if (decide (n_1≥256))=true then
  some (List.replicate 4 0)
 else
 loopN (ZaL.p1 N n_1 a_0_0) N (0,List.replicate 4 0)
noncomputable def ZaL.p2.S (n_1 v1:Int) (a_0_0 out_4:List Int) (st:LL):S:=mkS 53 [(2,.one (.adr (.site 2) 0)),(4,.one (.adr (.site 4) 0)),(5,.one (.adr (.site 5) 0)),(6,.one (.l (L.int .i64 (w64 (Int.tdiv (if (0:Int)>n_1 then 0 else n_1) 64))))),(7,.one (.l (L.int .i64 (Int.tmod (if (0:Int)>n_1 then 0 else n_1) 64)))),(19,.one (.l (L.int .i64 (w64 (4-(w64 (Int.tdiv (if (0:Int)>n_1 then 0 else n_1) 64))))))),(20,.one (.l (L.int .i64 v1)))] [(2,.cells [L.arr .u64 4 a_0_0]),(4,.cells [L.arr .u64 4 (List.replicate 4 0)]),(5,.cells [L.arr .u64 4 out_4])] st
noncomputable def ZaL.p1.S (n_1 v1:Int) (a_0_0 out_3:List Int) (st:LL):S:=mkS 53 [(2,.one (.adr (.site 2) 0)),(4,.one (.adr (.site 4) 0)),(5,.one (.adr (.site 5) 0)),(6,.one (.l (L.int .i64 (w64 (Int.tdiv (if (0:Int)>n_1 then 0 else n_1) 64))))),(7,.one (.l (L.int .i64 (Int.tmod (if (0:Int)>n_1 then 0 else n_1) 64)))),(19,.one (.l (L.int .i64 (w64 (4-(w64 (Int.tdiv (if (0:Int)>n_1 then 0 else n_1) 64))))))),(20,.one (.l (L.int .i64 v1)))] [(2,.cells [L.arr .u64 4 a_0_0]),(4,.cells [L.arr .u64 4 (List.replicate 4 0)]),(5,.cells [L.arr .u64 4 out_3])] st
theorem ZaL.p2_ok {n_1 v1 a_0_0 out_4 st r c1_ J1} (h:ZaL.p2 N c1_ n_1 v1 a_0_0 out_4=some r) (hE:En Tryz.f140 g0 w0 (ZaL.rs r) st R) (hc1 : ∀v1 out_3,c1_ (v1,out_3)=some r→At g0 w0 (ZaL.p1.S n_1 v1 a_0_0 out_3 st) J1):At g0 w0 (ZaL.p2.S n_1 v1 a_0_0 out_4 st) (XK Tryz.prog R [.c (csub ZaL.B [1,1,1,1,0,1,0,0,1,1,1]),.h J1,.b 0,.c (csub ZaL.B [1,1,1,1,1])]):=by
 unfold ZaL.p2 at h
 exact an fol [.r []] [2,4,5,6,7,19,20] [2,4,5] trivial (hc1 (w64 (v1+1)) out_4 h)
theorem ZaL.p1_ok {n_1 v1 a_0_0 out_3 st r c1_ J1} (h:ZaL.p1 N n_1 a_0_0 c1_ (v1,out_3)=some r) (hE:En Tryz.f140 g0 w0 (ZaL.rs r) st R) (hc1 : ∀v1 out_3,c1_ (v1,out_3)=some r→At g0 w0 (ZaL.p1.S n_1 v1 a_0_0 out_3 st) J1):At g0 w0 (ZaL.p1.S n_1 v1 a_0_0 out_3 st) (XK Tryz.prog R (.c (csub ZaL.B [1,1,1,1,0,1,0,0]) :: .h J1 :: [.b 0,.c (csub ZaL.B [1,1,1,1,1])])):=by
 unfold ZaL.p1 at h
 refine iteB h (fun c11 h1=>?_) (fun c11 h2=>?_)<;>clear h
 ·obtain ⟨c12,c13,c14,c15,c16,h3⟩:=ck5 h1;clear h1
  refine iteB h3 (fun c17 h4=>?_) (fun c17 h5=>?_)<;>clear h3
  ·obtain ⟨c18,c19,h6⟩:=ck2 h4;clear h4
   exact aqd fol [.r [],.c true,.r [],.r [],.r [],.c true,.d {ds:=[],hv:=16384,Hs:=[16384]},.s 4] [2,4,5,6,7,19,20] [2,4,5] (aO c11 c12 c13 c14 c15 c16 c17 (aN c15 c16 c18 (oD c17) c19 c15 c16)) (ZaL.p2_ok h6 hE hc1)
  ·exact aq fol [.r [],.c true,.r [],.r [],.r [],.c false,.s 4] [2,4,5,6,7,19,20] [2,4,5] (aN c11 c12 c13 c14 c15 c16 c17) (ZaL.p2_ok h5 hE hc1)
 ·obtain rfl:=Zac h2
  exact af fol hE [.r [],.c false,.r []] [] 0 [] c11
theorem ZaL.snd {a_0_0:List Int} {n_1:Int} {r:(List Int)} (h:ZaL N a_0_0 n_1=some r):SndQ Tryz.prog 140 [.agg [L.arr .u64 4 a_0_0],.one (L.int .i64 n_1)] (ZaL.rs r):=fun st=>
 sO ZaL.B Tryz.func140 fun g0 w0 R hE=>by
  unfold ZaL at h
  refine iteB h (fun c1 h7=>?_) (fun c1 h8=>?_)<;>clear h
  ·obtain rfl:=Zac h7
   exact af fol hE [.r [],.r [],.c true,.r []] [] 0 [] c1
  ·exact aq fol [.r [],.r [],.c false,.r [],.r [],.r []] [2,4,5,6,7,19,20] [2,4,5] (aJ c1 (neI 64) (neI 64)) (At.loop N (At.loopN (fun y:Int×(List Int)=>ZaL.p1.S n_1 y.1 a_0_0 y.2 st) (fun c J hc y h=>ZaL.p1_ok (v1:=y.1) (out_3:=y.2) h hE (fun v1 out_3=>hc (v1,out_3))) N (0,List.replicate 4 0) h8))
noncomputable def Zba.B:Code:=Tryz.f139.body.getD .skip
noncomputable def Zba.rs (r:(List Int)):List CV:=[.agg [L.arr .u64 4 r]]
noncomputable def Zba.p2 (N:Nat) (c1_:(Int×(List Int))→Option (List Int)) (n_1 i_1:Int) (a_0_0 out_4:List Int):Option (List Int):=
 c1_ (w64 (i_1+1),out_4)
noncomputable def Zba.p1 (N:Nat) (n_1:Int) (a_0_0:List Int) (c1_:(Int×(List Int))→Option (List Int)):(Int×(List Int))→Option (List Int):=fun (i_1,out_3)=>
 if (decide (i_1<4))=true then
  chk (0≤(w64 (i_1-(w64 (Int.tdiv (if (0:Int)>n_1 then 0 else n_1) 64)))))<|
  chk ((w64 (i_1-(w64 (Int.tdiv (if (0:Int)>n_1 then 0 else n_1) 64))))<4)<|
  chk (0≤(Int.tmod (if (0:Int)>n_1 then 0 else n_1) 64))<|
  chk (0≤i_1)<|
  if (decide (i_1>(w64 (Int.tdiv (if (0:Int)>n_1 then 0 else n_1) 64))))=true then
   chk (0≤(w64 ((w64 (i_1-(w64 (Int.tdiv (if (0:Int)>n_1 then 0 else n_1) 64))))-1)))<|
   chk ((w64 ((w64 (i_1-(w64 (Int.tdiv (if (0:Int)>n_1 then 0 else n_1) 64))))-1))<4)<|
   chk (0≤(w64 (64-(Int.tmod (if (0:Int)>n_1 then 0 else n_1) 64))))<|
   Zba.p2 N c1_ n_1 i_1 a_0_0 (List.set (List.set out_3 (Int.toNat i_1) (shlOf .u64 (List.getD a_0_0 (Int.toNat (w64 (i_1-(w64 (Int.tdiv (if (0:Int)>n_1 then 0 else n_1) 64))))) 0) (Int.tmod (if (0:Int)>n_1 then 0 else n_1) 64))) (Int.toNat i_1) (bitsOf .or .u64 (List.getD (List.set out_3 (Int.toNat i_1) (shlOf .u64 (List.getD a_0_0 (Int.toNat (w64 (i_1-(w64 (Int.tdiv (if (0:Int)>n_1 then 0 else n_1) 64))))) 0) (Int.tmod (if (0:Int)>n_1 then 0 else n_1) 64))) (Int.toNat i_1) 0) (shrOf .u64 (List.getD a_0_0 (Int.toNat (w64 ((w64 (i_1-(w64 (Int.tdiv (if (0:Int)>n_1 then 0 else n_1) 64))))-1))) 0) (w64 (64-(Int.tmod (if (0:Int)>n_1 then 0 else n_1) 64))))))
  else
  Zba.p2 N c1_ n_1 i_1 a_0_0 (List.set out_3 (Int.toNat i_1) (shlOf .u64 (List.getD a_0_0 (Int.toNat (w64 (i_1-(w64 (Int.tdiv (if (0:Int)>n_1 then 0 else n_1) 64))))) 0) (Int.tmod (if (0:Int)>n_1 then 0 else n_1) 64)))
 else
 some out_3
noncomputable def Zba (N:Nat) (a_0_0:List Int) (n_1:Int):Option (List Int):=
 if (decide (n_1≥256))=true then
  some (List.replicate 4 0)
 else
 loopN (Zba.p1 N n_1 a_0_0) N (w64 (Int.tdiv (if (0:Int)>n_1 then 0 else n_1) 64),List.replicate 4 0)
noncomputable def Zba.p2.S (n_1 i_1:Int) (a_0_0 out_4:List Int) (st:LL):S:=mkS 50 [(2,.one (.adr (.site 2) 0)),(4,.one (.adr (.site 4) 0)),(5,.one (.adr (.site 5) 0)),(6,.one (.l (L.int .i64 (w64 (Int.tdiv (if (0:Int)>n_1 then 0 else n_1) 64))))),(7,.one (.l (L.int .i64 (Int.tmod (if (0:Int)>n_1 then 0 else n_1) 64)))),(8,.one (.l (L.int .i64 i_1)))] [(2,.cells [L.arr .u64 4 a_0_0]),(4,.cells [L.arr .u64 4 (List.replicate 4 0)]),(5,.cells [L.arr .u64 4 out_4])] st
noncomputable def Zba.p1.S (n_1 i_1:Int) (a_0_0 out_3:List Int) (st:LL):S:=mkS 50 [(2,.one (.adr (.site 2) 0)),(4,.one (.adr (.site 4) 0)),(5,.one (.adr (.site 5) 0)),(6,.one (.l (L.int .i64 (w64 (Int.tdiv (if (0:Int)>n_1 then 0 else n_1) 64))))),(7,.one (.l (L.int .i64 (Int.tmod (if (0:Int)>n_1 then 0 else n_1) 64)))),(8,.one (.l (L.int .i64 i_1)))] [(2,.cells [L.arr .u64 4 a_0_0]),(4,.cells [L.arr .u64 4 (List.replicate 4 0)]),(5,.cells [L.arr .u64 4 out_3])] st
theorem Zba.p2_ok {n_1 i_1 a_0_0 out_4 st r c1_ J1} (h:Zba.p2 N c1_ n_1 i_1 a_0_0 out_4=some r) (hE:En Tryz.f139 g0 w0 (Zba.rs r) st R) (hc1 : ∀i_1 out_3,c1_ (i_1,out_3)=some r→At g0 w0 (Zba.p1.S n_1 i_1 a_0_0 out_3 st) J1):At g0 w0 (Zba.p2.S n_1 i_1 a_0_0 out_4 st) (XK Tryz.prog R [.c (csub Zba.B [1,1,1,1,0,1,0,0,1,1]),.h J1,.b 0,.c (csub Zba.B [1,1,1,1,1])]):=by
 unfold Zba.p2 at h
 exact an fol [.r []] [2,4,5,6,7,8] [2,4,5] trivial (hc1 (w64 (i_1+1)) out_4 h)
theorem Zba.p1_ok {n_1 i_1 a_0_0 out_3 st r c1_ J1} (h:Zba.p1 N n_1 a_0_0 c1_ (i_1,out_3)=some r) (hE:En Tryz.f139 g0 w0 (Zba.rs r) st R) (hc1 : ∀i_1 out_3,c1_ (i_1,out_3)=some r→At g0 w0 (Zba.p1.S n_1 i_1 a_0_0 out_3 st) J1):At g0 w0 (Zba.p1.S n_1 i_1 a_0_0 out_3 st) (XK Tryz.prog R (.c (csub Zba.B [1,1,1,1,0,1,0,0]) :: .h J1 :: [.b 0,.c (csub Zba.B [1,1,1,1,1])])):=by
 unfold Zba.p1 at h
 refine iteB h (fun c11 h1=>?_) (fun c11 h2=>?_)<;>clear h
 ·obtain ⟨c12,c13,c14,c15,h3⟩:=ck4 h1;clear h1
  refine iteB h3 (fun c16 h4=>?_) (fun c16 h5=>?_)<;>clear h3
  ·obtain ⟨c17,c18,c19,h6⟩:=ck3 h4;clear h4
   exact aqd fol [.r [],.c true,.r [],.r [],.c true,.d {ds:=[],hv:=16384,Hs:=[16384]},.s 4] [2,4,5,6,7,8] [2,4,5] (aO c11 c12 c13 c14 c15 (oD c11) c16 (aN c15 (oD c11) c17 c18 c19 c15 (oD c11))) (Zba.p2_ok h6 hE hc1)
  ·exact aq fol [.r [],.c true,.r [],.r [],.c false,.s 4] [2,4,5,6,7,8] [2,4,5] (aN c11 c12 c13 c14 c15 (oD c11) c16) (Zba.p2_ok h5 hE hc1)
 ·obtain rfl:=Zac h2
  exact af fol hE [.r [],.c false,.r []] [] 0 [] c11
theorem Zba.snd {a_0_0:List Int} {n_1:Int} {r:(List Int)} (h:Zba N a_0_0 n_1=some r):SndQ Tryz.prog 139 [.agg [L.arr .u64 4 a_0_0],.one (L.int .i64 n_1)] (Zba.rs r):=fun st=>
 sO Zba.B Tryz.func139 fun g0 w0 R hE=>by
  unfold Zba at h
  refine iteB h (fun c1 h7=>?_) (fun c1 h8=>?_)<;>clear h
  ·obtain rfl:=Zac h7
   exact af fol hE [.r [],.r [],.c true,.r []] [] 0 [] c1
  ·exact aq fol [.r [],.r [],.c false,.r [],.r [],.r []] [2,4,5,6,7,8] [2,4,5] (aJ c1 (neI 64) (neI 64)) (At.loop N (At.loopN (fun y:Int×(List Int)=>Zba.p1.S n_1 y.1 a_0_0 y.2 st) (fun c J hc y h=>Zba.p1_ok (i_1:=y.1) (out_3:=y.2) h hE (fun i_1 out_3=>hc (i_1,out_3))) N (w64 (Int.tdiv (if (0:Int)>n_1 then 0 else n_1) 64),List.replicate 4 0) h8))
noncomputable def Zas.B:Code:=Tryz.f117.body.getD .skip
noncomputable def Zas.rs (r:(List Int)×Bool×Bool):List CV:=[.agg [L.arr .u64 4 r.1],.one (L.bool r.2.1),.one (L.bool r.2.2)]
noncomputable def Zas.p2 (N:Nat) (bits_0:Int) (below_6:Bool) (n_5:List Int):Option ((List Int)×Bool×Bool):=
 if ((bitsOf .and .i64 bits_0 8388607) != 0)=true then
  if (decide ((shrOf .i64 bits_0 24)>34))=true then
   some (n_5,below_6,true)
  else
  if (decide ((bitsOf .and .i64 bits_0 8388607)>255))=true then
   if (decide ((shrOf .i64 bits_0 24)>33))=true then
    some (n_5,below_6,true)
   else
   if (decide ((bitsOf .and .i64 bits_0 8388607)>65535))=true then
    some (n_5,below_6,decide ((shrOf .i64 bits_0 24)>32))
   else
   some (n_5,below_6,false)
  else
  if (decide ((bitsOf .and .i64 bits_0 8388607)>65535))=true then
   some (n_5,below_6,decide ((shrOf .i64 bits_0 24)>32))
  else
  some (n_5,below_6,false)
 else
 some (n_5,below_6,false)
noncomputable def Zas.p1 (N:Nat) (bits_0:Int) (n_5:List Int):Option ((List Int)×Bool×Bool):=
 if ((bitsOf .and .i64 bits_0 8388607) != 0)=true then
  Zas.p2 N bits_0 ((bitsOf .and .i64 bits_0 8388608) != 0) n_5
 else
 Zas.p2 N bits_0 false n_5
noncomputable def Zas (N:Nat) (bits_0:Int):Option ((List Int)×Bool×Bool):=
 optE (ZbH N bits_0) fun x1=>
 if (!x1)=true then
  some (List.replicate 4 0,false,false)
 else
 optE (ZbC N (v64 (bitsOf .and .i64 bits_0 8388607))) fun x2=>
 if (decide ((shrOf .i64 bits_0 24)≤3))=true then
  optE (ZaL N x2 (w64 (8*(w64 (3-(shrOf .i64 bits_0 24)))))) fun x3=>
  Zas.p1 N bits_0 x3
 else
 optE (Zba N x2 (w64 (8*(w64 ((shrOf .i64 bits_0 24)-3))))) fun x4=>
 Zas.p1 N bits_0 x4
noncomputable def Zas.p2.S (bits_0:Int) (below_6:Bool) (n_5:List Int) (st:LL):S:=mkS 65 [(2,.one (.adr (.site 2) 0)),(5,.one (.l (L.int .i64 (shrOf .i64 bits_0 24)))),(6,.one (.l (L.int .i64 (bitsOf .and .i64 bits_0 8388607)))),(7,.one (.adr (.site 7) 0)),(8,.one (.l (L.bool below_6)))] [(2,.cells [L.arr .u64 4 (List.replicate 4 0)]),(7,.cells [L.arr .u64 4 n_5])] st
noncomputable def Zas.p1.S (bits_0:Int) (n_5:List Int) (st:LL):S:=mkS 65 [(0,.one (.l (L.int .i64 bits_0))),(2,.one (.adr (.site 2) 0)),(5,.one (.l (L.int .i64 (shrOf .i64 bits_0 24)))),(6,.one (.l (L.int .i64 (bitsOf .and .i64 bits_0 8388607)))),(7,.one (.adr (.site 7) 0))] [(2,.cells [L.arr .u64 4 (List.replicate 4 0)]),(7,.cells [L.arr .u64 4 n_5])] st
theorem Zas.p2_ok {bits_0 below_6 n_5 st r} (h:Zas.p2 N bits_0 below_6 n_5=some r) (hE:En Tryz.f117 g0 w0 (Zas.rs r) st R):At g0 w0 (Zas.p2.S bits_0 below_6 n_5 st) (XK Tryz.prog R [.c (csub Zas.B [1,1,1,1,1,1])]):=by
 unfold Zas.p2 at h
 refine iteB h (fun c8 h1=>?_) (fun c8 h2=>?_)<;>clear h
 ·refine iteB h1 (fun c9 h3=>?_) (fun c9 h4=>?_)<;>clear h1
  ·obtain rfl:=Zac h3
   exact af fol hE [.r [(6,{want:=false}),(7,{want:=false}),(8,{want:=false}),(11,{want:=false}),(14,{want:=false}),(15,{want:=false}),(16,{want:=false}),(19,{want:=false})],.r []] [] 0 [] (aO c8 c8 c8 c9 c9 c9 c9 (aO c8 c9 c8 (eB true) (eB true) (eB true) (eB true) (aJ c8 (eB true) c8)))
  ·refine iteB h4 (fun c10 h5=>?_) (fun c10 h6=>?_)<;>clear h4
   ·refine iteB h5 (fun c11 h7=>?_) (fun c11 h8=>?_)<;>clear h5
    ·obtain rfl:=Zac h7
     exact af fol hE [.r [(12,{yes:=false}),(14,{want:=false}),(15,{want:=false}),(16,{want:=false}),(19,{want:=false})],.r []] [] 0 [] (aO c8 c8 c8 c9 c9 c9 c10 (aO c10 c9 c10 c8 c9 c8 c11 (aM c11 c11 c11 c8 c11 c8)))
    ·refine iteB h8 (fun c12 h9=>?_) (fun c12 h10=>?_)<;>clear h8
     ·obtain rfl:=Zac h9
      exact af fol hE [.r [(12,{yes:=false}),(20,{yes:=false})],.r []] [] 0 [] (aO c8 c8 c8 c9 c9 c9 c10 (aO c10 c9 c10 c8 c9 c8 c11 (aO c11 c11 c12 c12 c11 c12 c8 (aI c11 c8))))
     ·obtain rfl:=Zac h10
      exact af fol hE [.r [(12,{yes:=false}),(17,{want:=false}),(18,{want:=false}),(19,{yes:=false}),(20,{yes:=false})],.r []] [] 0 [] (aO c8 c8 c8 c9 c9 c9 c10 (aO c10 c9 c10 c8 c9 c8 c11 (aO c11 c11 c12 c12 c11 c12 c8 (aI c11 c8))))
   ·refine iteB h6 (fun c13 h11=>?_) (fun c13 h12=>?_)<;>clear h6
    ·obtain rfl:=Zac h11
     exact af fol hE [.r [(9,{want:=false}),(10,{want:=false}),(11,{yes:=false}),(12,{yes:=false}),(20,{yes:=false})],.r []] [] 0 [] (aO c8 c8 c8 c9 c9 c9 c10 (aO c10 c9 c10 c8 c9 c8 (eB false) (aO (eB false) (eB false) c13 c13 (eB false) c13 c8 (aI (eB false) c8))))
    ·obtain rfl:=Zac h12
     exact af fol hE [.r [(9,{want:=false}),(10,{want:=false}),(11,{yes:=false}),(12,{yes:=false}),(17,{want:=false}),(18,{want:=false}),(19,{yes:=false}),(20,{yes:=false})],.r []] [] 0 [] (aO c8 c8 c8 c9 c9 c9 c10 (aO c10 c9 c10 c8 c9 c8 (eB false) (aO (eB false) (eB false) c13 c13 (eB false) c13 c8 (aI (eB false) c8))))
 ·obtain rfl:=Zac h2
  exact af fol hE [.r [(3,{want:=false}),(4,{want:=false}),(5,{want:=false}),(12,{want:=false}),(13,{want:=false}),(20,{want:=false}),(21,{yes:=false})],.r []] [] 0 [] (aN c8 c8 c8 c8 c8 c8 c8)
theorem Zas.p1_ok {bits_0 n_5 st r} (h:Zas.p1 N bits_0 n_5=some r) (hE:En Tryz.f117 g0 w0 (Zas.rs r) st R):At g0 w0 (Zas.p1.S bits_0 n_5 st) (XK Tryz.prog R [.c (csub Zas.B [1,1,1,1,1])]):=by
 unfold Zas.p1 at h
 refine iteB h (fun c7 h13=>?_) (fun c7 h14=>?_)<;>clear h
 ·exact aq fol [.r [],.s 1] [2,5,6,7,8] [2,7] (aK c7 c7 c7 c7) (Zas.p2_ok h13 hE)
 ·exact aq fol [.r [(3,{want:=false}),(4,{want:=false}),(5,{want:=false}),(6,{yes:=false})],.s 1] [2,5,6,7,8] [2,7] (aK c7 c7 c7 c7) (Zas.p2_ok h14 hE)
theorem Zas.snd {bits_0:Int} {r:(List Int)×Bool×Bool} (h:Zas N bits_0=some r):SndQ Tryz.prog 117 [.one (L.int .i64 bits_0)] (Zas.rs r):=fun st=>
 sO Zas.B Tryz.func117 fun g0 w0 R hE=>by
  unfold Zas at h
  obtain ⟨x1,c1,h15⟩:=Zaf h;clear h
  refine iteB h15 (fun c2 h16=>?_) (fun c2 h17=>?_)<;>clear h15
  ·obtain rfl:=Zac h16
   exact af fol hE [.r [],.r [(1,{rs:=[.one (L.bool x1)],m:=1})],.c true,.r []] [] 0 [] (aI (ZbH.snd c1) c2)
  ·obtain ⟨x2,c3,h18⟩:=Zaf h17;clear h17
   refine iteB h18 (fun c4 h19=>?_) (fun c4 h20=>?_)<;>clear h18
   ·obtain ⟨x3,c5,h21⟩:=Zaf h19;clear h19
    exact aq fol [.r [],.r [(1,{rs:=[.one (L.bool x1)],m:=1})],.c false,.r [],.r [(2,{rs:=[.agg [L.arr .u64 4 x2]],m:=1})],.r [],.c true,.r [(4,{rs:=[.agg [L.arr .u64 4 x3]],m:=1})],.s 1] [0,2,5,6,7] [2,7] (aM (ZbH.snd c1) c2 (leI 0 24) (ZbC.snd c3) c4 (ZaL.snd c5)) (Zas.p1_ok h21 hE)
   ·obtain ⟨x4,c6,h22⟩:=Zaf h20;clear h20
    exact aq fol [.r [],.r [(1,{rs:=[.one (L.bool x1)],m:=1})],.c false,.r [],.r [(2,{rs:=[.agg [L.arr .u64 4 x2]],m:=1})],.r [],.c false,.r [(4,{rs:=[.agg [L.arr .u64 4 x4]],m:=1})],.s 1] [0,2,5,6,7] [2,7] (aM (ZbH.snd c1) c2 (leI 0 24) (ZbC.snd c3) c4 (Zba.snd c6)) (Zas.p1_ok h22 hE)
noncomputable def ZbI.B:Code:=Tryz.f115.body.getD .skip
noncomputable def ZbI.rs (r:Bool):List CV:=[.one (L.bool r)]
noncomputable def ZbI (N:Nat) (a_0_0:List Int):Option Bool:=
 some (a_0_0==(List.replicate 4 0))
theorem ZbI.snd {a_0_0:List Int} {r:Bool} (h:ZbI N a_0_0=some r):SndQ Tryz.prog 115 [.agg [L.arr .u64 4 a_0_0]] (ZbI.rs r):=fun st=>
 sO ZbI.B Tryz.func115 fun g0 w0 R hE=>by
  unfold ZbI at h
  obtain rfl:=Zac h
  exact af fol hE [.r [],.r []] [] 0 [] trivial
noncomputable def ZaU.B:Code:=Tryz.f68.body.getD .skip
noncomputable def ZaU.rs (r:Int):List CV:=[.one (L.int .i64 r)]
noncomputable def ZaU.p1 (N:Nat) (a_0_0 b_1_0:List Int) (c1_:Int→Option Int):Int→Option Int:=fun i_1=>
 if (decide (i_1≥0))=true then
  chk (0≤i_1)<|
  chk (i_1<4)<|
  if (decide ((List.getD a_0_0 (Int.toNat i_1) 0)<(List.getD b_1_0 (Int.toNat i_1) 0)))=true then
   some (-1)
  else
  if (decide ((List.getD a_0_0 (Int.toNat i_1) 0)>(List.getD b_1_0 (Int.toNat i_1) 0)))=true then
   some 1
  else
  c1_ (w64 (i_1-1))
 else
 some 0
noncomputable def ZaU (N:Nat) (a_0_0 b_1_0:List Int):Option Int:=
 loopN (ZaU.p1 N a_0_0 b_1_0) N 3
noncomputable def ZaU.p1.S (i_1:Int) (a_0_0 b_1_0:List Int) (st:LL):S:=mkS 26 [(2,.one (.adr (.site 2) 0)),(3,.one (.adr (.site 3) 0)),(5,.one (.l (L.int .i64 i_1)))] [(2,.cells [L.arr .u64 4 a_0_0]),(3,.cells [L.arr .u64 4 b_1_0])] st
theorem ZaU.p1_ok {i_1 a_0_0 b_1_0 st r c1_ J1} (h:ZaU.p1 N a_0_0 b_1_0 c1_ i_1=some r) (hE:En Tryz.f68 g0 w0 (ZaU.rs r) st R) (hc1 : ∀i_1,c1_ i_1=some r→At g0 w0 (ZaU.p1.S i_1 a_0_0 b_1_0 st) J1):At g0 w0 (ZaU.p1.S i_1 a_0_0 b_1_0 st) (XK Tryz.prog R (.c (csub ZaU.B [1,0,1,0,0]) :: .h J1 :: [.b 0,.c (csub ZaU.B [1,1])])):=by
 unfold ZaU.p1 at h
 refine iteB h (fun c1 h1=>?_) (fun c1 h2=>?_)<;>clear h
 ·obtain ⟨c2,c3,h3⟩:=ck2 h1;clear h1
  refine iteB h3 (fun c4 h4=>?_) (fun c4 h5=>?_)<;>clear h3
  ·obtain rfl:=Zac h4
   exact afd fol hE [.r [],.c true,.d {ds:=[],hv:=0,Hs:=[]},.c true,.r []] [] 0 [] (aM c1 c2 c3 c2 c3 c4)
  ·refine iteB h5 (fun c5 h6=>?_) (fun c5 h7=>?_)<;>clear h5
   ·obtain rfl:=Zac h6
    exact afd fol hE [.r [],.c true,.d {ds:=[],hv:=0,Hs:=[]},.c false,.d {ds:=[],hv:=0,Hs:=[]},.c true,.r []] [] 0 [] (aO c1 c2 c3 c2 c3 c4 c2 (aK c3 c2 c3 c5))
   ·exact and_ fol [.r [],.c true,.d {ds:=[],hv:=0,Hs:=[]},.c false,.d {ds:=[],hv:=0,Hs:=[]},.c false,.r []] [2,3,5] [2,3] (aO c1 c2 c3 c2 c3 c4 c2 (aK c3 c2 c3 c5)) (hc1 (w64 (i_1-1)) h7)
 ·obtain rfl:=Zac h2
  exact af fol hE [.r [],.c false,.r []] [] 0 [] c1
theorem ZaU.snd {a_0_0 b_1_0:List Int} {r:Int} (h:ZaU N a_0_0 b_1_0=some r):SndQ Tryz.prog 68 [.agg [L.arr .u64 4 a_0_0],.agg [L.arr .u64 4 b_1_0]] (ZaU.rs r):=fun st=>
 sO ZaU.B Tryz.func68 fun g0 w0 R hE=>by
  unfold ZaU at h
  exact aq fol [.r [],.r []] [2,3,5] [2,3] trivial (At.loop N (At.loopN (fun y:Int=>ZaU.p1.S y a_0_0 b_1_0 st) (fun c J hc y h=>ZaU.p1_ok h hE (fun i_1=>hc i_1)) N 3 h))
noncomputable def ZbL.B:Code:=Tryz.f114.body.getD .skip
noncomputable def ZbL.rs (r:Bool):List CV:=[.one (L.bool r)]
noncomputable def ZbL (N:Nat) (a_0_0 b_1_0:List Int):Option Bool:=
 optE (ZaU N a_0_0 b_1_0) fun x1=>
 some (decide (x1<0))
theorem ZbL.snd {a_0_0 b_1_0:List Int} {r:Bool} (h:ZbL N a_0_0 b_1_0=some r):SndQ Tryz.prog 114 [.agg [L.arr .u64 4 a_0_0],.agg [L.arr .u64 4 b_1_0]] (ZbL.rs r):=fun st=>
 sO ZbL.B Tryz.func114 fun g0 w0 R hE=>by
  unfold ZbL at h
  obtain ⟨x1,c1,h1⟩:=Zaf h;clear h
  obtain rfl:=Zac h1
  exact af fol hE [.r [],.r [(2,{rs:=[.one (L.int .i64 x1)],m:=1})]] [] 0 [] (ZaU.snd c1)
noncomputable def ZaE.B:Code:=Tryz.f89.body.getD .skip
noncomputable def ZaE.rs (r:(List Int)×Bool):List CV:=[.agg [L.arr .u64 4 r.1],.one (L.bool r.2)]
noncomputable def ZaE (N:Nat) (bits_0 limit_1:Int):Option ((List Int)×Bool):=
 optE (Zas N bits_0) fun (x1,x2,x3)=>
 optE (Zas N limit_1) fun (x4,x5,x6)=>
 if x2=true then
  some (List.replicate 4 0,false)
 else
 if x3=true then
  some (List.replicate 4 0,false)
 else
 if x5=true then
  some (List.replicate 4 0,false)
 else
 if x6=true then
  some (List.replicate 4 0,false)
 else
 optE (ZbI N x1) fun x7=>
 if x7=true then
  some (List.replicate 4 0,false)
 else
 optE (ZbL N x4 x1) fun x8=>
 if x8=true then
  some (List.replicate 4 0,false)
 else
 some (x1,true)
theorem ZaE.snd {bits_0 limit_1:Int} {r:(List Int)×Bool} (h:ZaE N bits_0 limit_1=some r):SndQ Tryz.prog 89 [.one (L.int .i64 bits_0),.one (L.int .i64 limit_1)] (ZaE.rs r):=fun st=>
 sO ZaE.B Tryz.func89 fun g0 w0 R hE=>by
  unfold ZaE at h
  obtain ⟨⟨x1,x2,x3⟩,c1,h1⟩:=Zaf h;clear h
  obtain ⟨⟨x4,x5,x6⟩,c2,h2⟩:=Zaf h1;clear h1
  refine iteB h2 (fun c3 h3=>?_) (fun c3 h4=>?_)<;>clear h2
  ·obtain rfl:=Zac h3
   exact af fol hE [.r [],.r [(1,{rs:=[.agg [L.arr .u64 4 x1],.one (L.bool x2),.one (L.bool x3)],m:=1})],.r [(1,{rs:=[.agg [L.arr .u64 4 x4],.one (L.bool x5),.one (L.bool x6)],m:=1})],.r [(2,{want:=false}),(5,{want:=false}),(8,{want:=false}),(11,{want:=false}),(12,{want:=false}),(15,{want:=false}),(16,{want:=false}),(17,{want:=false})],.c true,.r []] [] 0 [] (aO (Zas.snd c1) (Zas.snd c2) c3 c3 (eB true) (eB true) (eB true) (aO (eB true) (eB true) (eB true) (eB true) (eB true) (eB true) (eB true) (aI (eB true) (eB true))))
  ·refine iteB h4 (fun c4 h5=>?_) (fun c4 h6=>?_)<;>clear h4
   ·obtain rfl:=Zac h5
    exact af fol hE [.r [],.r [(1,{rs:=[.agg [L.arr .u64 4 x1],.one (L.bool x2),.one (L.bool x3)],m:=1})],.r [(1,{rs:=[.agg [L.arr .u64 4 x4],.one (L.bool x5),.one (L.bool x6)],m:=1})],.r [(3,{yes:=false}),(5,{want:=false}),(8,{want:=false}),(11,{want:=false}),(12,{want:=false}),(15,{want:=false}),(16,{want:=false}),(17,{want:=false})],.c true,.r []] [] 0 [] (aO (Zas.snd c1) (Zas.snd c2) c3 c3 c4 c4 (eB true) (aO (eB true) (eB true) (eB true) (eB true) (eB true) (eB true) (eB true) (aI (eB true) (eB true))))
   ·refine iteB h6 (fun c5 h7=>?_) (fun c5 h8=>?_)<;>clear h6
    ·obtain rfl:=Zac h7
     exact af fol hE [.r [],.r [(1,{rs:=[.agg [L.arr .u64 4 x1],.one (L.bool x2),.one (L.bool x3)],m:=1})],.r [(1,{rs:=[.agg [L.arr .u64 4 x4],.one (L.bool x5),.one (L.bool x6)],m:=1})],.r [(3,{yes:=false}),(6,{yes:=false}),(8,{want:=false}),(11,{want:=false}),(12,{want:=false}),(15,{want:=false}),(16,{want:=false}),(17,{want:=false})],.c true,.r []] [] 0 [] (aO (Zas.snd c1) (Zas.snd c2) c3 c3 c4 c4 c5 (aO c5 (eB true) (eB true) (eB true) (eB true) (eB true) (eB true) (aI (eB true) (eB true))))
    ·refine iteB h8 (fun c6 h9=>?_) (fun c6 h10=>?_)<;>clear h8
     ·obtain rfl:=Zac h9
      exact af fol hE [.r [],.r [(1,{rs:=[.agg [L.arr .u64 4 x1],.one (L.bool x2),.one (L.bool x3)],m:=1})],.r [(1,{rs:=[.agg [L.arr .u64 4 x4],.one (L.bool x5),.one (L.bool x6)],m:=1})],.r [(3,{yes:=false}),(6,{yes:=false}),(9,{yes:=false}),(11,{want:=false}),(12,{want:=false}),(15,{want:=false}),(16,{want:=false}),(17,{want:=false})],.c true,.r []] [] 0 [] (aO (Zas.snd c1) (Zas.snd c2) c3 c3 c4 c4 c5 (aO c5 c6 c6 c6 (eB true) (eB true) (eB true) (aI (eB true) (eB true))))
     ·obtain ⟨x7,c7,h11⟩:=Zaf h10;clear h10
      refine iteB h11 (fun c8 h12=>?_) (fun c8 h13=>?_)<;>clear h11
      ·obtain rfl:=Zac h12
       exact af fol hE [.r [],.r [(1,{rs:=[.agg [L.arr .u64 4 x1],.one (L.bool x2),.one (L.bool x3)],m:=1})],.r [(1,{rs:=[.agg [L.arr .u64 4 x4],.one (L.bool x5),.one (L.bool x6)],m:=1})],.r [(3,{yes:=false}),(6,{yes:=false}),(9,{yes:=false}),(12,{rs:=[.one (L.bool x7)],m:=1}),(13,{yes:=false}),(15,{want:=false}),(16,{want:=false}),(17,{want:=false})],.c true,.r []] [] 0 [] (aO (Zas.snd c1) (Zas.snd c2) c3 c3 c4 c4 c5 (aO c5 c6 c6 (ZbI.snd c7) c6 c8 c8 (aJ c8 c8 (eB true))))
      ·obtain ⟨x8,c9,h14⟩:=Zaf h13;clear h13
       refine iteB h14 (fun c10 h15=>?_) (fun c10 h16=>?_)<;>clear h14
       ·obtain rfl:=Zac h15
        exact af fol hE [.r [],.r [(1,{rs:=[.agg [L.arr .u64 4 x1],.one (L.bool x2),.one (L.bool x3)],m:=1})],.r [(1,{rs:=[.agg [L.arr .u64 4 x4],.one (L.bool x5),.one (L.bool x6)],m:=1})],.r [(3,{yes:=false}),(6,{yes:=false}),(9,{yes:=false}),(12,{rs:=[.one (L.bool x7)],m:=1}),(13,{yes:=false}),(17,{rs:=[.one (L.bool x8)],m:=1}),(18,{yes:=false})],.c true,.r []] [] 0 [] (aO (Zas.snd c1) (Zas.snd c2) c3 c3 c4 c4 c5 (aO c5 c6 c6 (ZbI.snd c7) c6 c8 c8 (aK c8 (ZbL.snd c9) c8 c10)))
       ·obtain rfl:=Zac h16
        exact af fol hE [.r [],.r [(1,{rs:=[.agg [L.arr .u64 4 x1],.one (L.bool x2),.one (L.bool x3)],m:=1})],.r [(1,{rs:=[.agg [L.arr .u64 4 x4],.one (L.bool x5),.one (L.bool x6)],m:=1})],.r [(3,{yes:=false}),(6,{yes:=false}),(9,{yes:=false}),(12,{rs:=[.one (L.bool x7)],m:=1}),(13,{yes:=false}),(17,{rs:=[.one (L.bool x8)],m:=1}),(18,{yes:=false})],.c false,.r []] [] 0 [] (aO (Zas.snd c1) (Zas.snd c2) c3 c3 c4 c4 c5 (aO c5 c6 c6 (ZbI.snd c7) c6 c8 c8 (aK c8 (ZbL.snd c9) c8 c10)))
noncomputable def ZbU.B:Code:=Tryz.f86.body.getD .skip
noncomputable def ZbU.rs (r:Bool):List CV:=[.one (L.bool r)]
noncomputable def ZbU (N:Nat) (p_0:Zal):Option Bool:=
 optE (ZaE N p_0.Limit p_0.Limit) fun (x1,x2)=>
 if x2=true then
  if (decide (p_0.Interval≥2))=true then
   if (decide (p_0.Interval≤64))=true then
    if (decide (p_0.Spacing≥1))=true then
     if (decide (p_0.Spacing≤10000))=true then
      if (decide (p_0.Future≥0))=true then
       some (decide (p_0.Future<4294967296))
      else
      some false
     else
     some false
    else
    some false
   else
   some false
  else
  some false
 else
 some false
theorem ZbU.snd {p_0:Zal} {r:Bool} (h:ZbU N p_0=some r):SndQ Tryz.prog 86 [.agg p_0.ls] (ZbU.rs r):=fun st=>
 sO ZbU.B Tryz.func86 fun g0 w0 R hE=>by
  unfold ZbU at h
  obtain ⟨⟨x1,x2⟩,c1,h1⟩:=Zaf h;clear h
  refine iteB h1 (fun c2 h2=>?_) (fun c2 h3=>?_)<;>clear h1
  ·refine iteB h2 (fun c3 h4=>?_) (fun c3 h5=>?_)<;>clear h2
   ·refine iteB h4 (fun c4 h6=>?_) (fun c4 h7=>?_)<;>clear h4
    ·refine iteB h6 (fun c5 h8=>?_) (fun c5 h9=>?_)<;>clear h6
     ·refine iteB h8 (fun c6 h10=>?_) (fun c6 h11=>?_)<;>clear h8
      ·refine iteB h10 (fun c7 h12=>?_) (fun c7 h13=>?_)<;>clear h10
       ·obtain rfl:=Zac h12
        exact af fol hE [.r [],.r [(4,{rs:=[.agg [L.arr .u64 4 x1],.one (L.bool x2)],m:=1})],.r []] [] 0 [] (aO (ZaE.snd c1) c2 c2 c2 c2 c3 c3 (aO c3 c3 c4 c4 c4 c4 c5 (aO c5 c5 c5 c6 c6 c6 c6 (aK c7 c7 c7 c7))))
       ·obtain rfl:=Zac h13
        exact af fol hE [.r [],.r [(4,{rs:=[.agg [L.arr .u64 4 x1],.one (L.bool x2)],m:=1})],.r [(27,{want:=false}),(28,{want:=false}),(29,{want:=false}),(30,{yes:=false})]] [] 0 [] (aO (ZaE.snd c1) c2 c2 c2 c2 c3 c3 (aO c3 c3 c4 c4 c4 c4 c5 (aO c5 c5 c5 c6 c6 c6 c6 (aK c7 c7 c7 c7))))
      ·obtain rfl:=Zac h11
       exact af fol hE [.r [],.r [(4,{rs:=[.agg [L.arr .u64 4 x1],.one (L.bool x2)],m:=1})],.r [(22,{want:=false}),(23,{want:=false}),(24,{want:=false}),(25,{yes:=false}),(27,{want:=false}),(28,{want:=false}),(29,{want:=false}),(30,{yes:=false})]] [] 0 [] (aO (ZaE.snd c1) c2 c2 c2 c2 c3 c3 (aO c3 c3 c4 c4 c4 c4 c5 (aO c5 c5 c5 c6 c6 c6 c6 (aK (eB false) (eB false) (eB false) (eB false)))))
     ·obtain rfl:=Zac h9
      exact af fol hE [.r [],.r [(4,{rs:=[.agg [L.arr .u64 4 x1],.one (L.bool x2)],m:=1})],.r [(17,{want:=false}),(18,{want:=false}),(19,{want:=false}),(20,{yes:=false}),(22,{want:=false}),(23,{want:=false}),(24,{want:=false}),(25,{yes:=false}),(27,{want:=false}),(28,{want:=false}),(29,{want:=false}),(30,{yes:=false})]] [] 0 [] (aO (ZaE.snd c1) c2 c2 c2 c2 c3 c3 (aO c3 c3 c4 c4 c4 c4 c5 (aO c5 c5 c5 (eB false) (eB false) (eB false) (eB false) (aK (eB false) (eB false) (eB false) (eB false)))))
    ·obtain rfl:=Zac h7
     exact af fol hE [.r [],.r [(4,{rs:=[.agg [L.arr .u64 4 x1],.one (L.bool x2)],m:=1})],.r [(12,{want:=false}),(13,{want:=false}),(14,{want:=false}),(15,{yes:=false}),(17,{want:=false}),(18,{want:=false}),(19,{want:=false}),(20,{yes:=false}),(22,{want:=false}),(23,{want:=false}),(24,{want:=false}),(25,{yes:=false}),(27,{want:=false}),(28,{want:=false}),(29,{want:=false}),(30,{yes:=false})]] [] 0 [] (aO (ZaE.snd c1) c2 c2 c2 c2 c3 c3 (aO c3 c3 c4 c4 c4 c4 (eB false) (aO (eB false) (eB false) (eB false) (eB false) (eB false) (eB false) (eB false) (aK (eB false) (eB false) (eB false) (eB false)))))
   ·obtain rfl:=Zac h5
    exact af fol hE [.r [],.r [(4,{rs:=[.agg [L.arr .u64 4 x1],.one (L.bool x2)],m:=1})],.r [(7,{want:=false}),(8,{want:=false}),(9,{want:=false}),(10,{yes:=false}),(12,{want:=false}),(13,{want:=false}),(14,{want:=false}),(15,{yes:=false}),(17,{want:=false}),(18,{want:=false}),(19,{want:=false}),(20,{yes:=false}),(22,{want:=false}),(23,{want:=false}),(24,{want:=false}),(25,{yes:=false}),(27,{want:=false}),(28,{want:=false}),(29,{want:=false}),(30,{yes:=false})]] [] 0 [] (aO (ZaE.snd c1) c2 c2 c2 c2 c3 c3 (aO c3 c3 (eB false) (eB false) (eB false) (eB false) (eB false) (aO (eB false) (eB false) (eB false) (eB false) (eB false) (eB false) (eB false) (aK (eB false) (eB false) (eB false) (eB false)))))
  ·obtain rfl:=Zac h3
   exact af fol hE [.r [],.r [(4,{rs:=[.agg [L.arr .u64 4 x1],.one (L.bool x2)],m:=1})],.r [(2,{want:=false}),(3,{want:=false}),(4,{want:=false}),(5,{yes:=false}),(7,{want:=false}),(8,{want:=false}),(9,{want:=false}),(10,{yes:=false}),(12,{want:=false}),(13,{want:=false}),(14,{want:=false}),(15,{yes:=false}),(17,{want:=false}),(18,{want:=false}),(19,{want:=false}),(20,{yes:=false}),(22,{want:=false}),(23,{want:=false}),(24,{want:=false}),(25,{yes:=false}),(27,{want:=false}),(28,{want:=false}),(29,{want:=false}),(30,{yes:=false})]] [] 0 [] (aO (ZaE.snd c1) c2 c2 c2 c2 (eB false) (eB false) (aO (eB false) (eB false) (eB false) (eB false) (eB false) (eB false) (eB false) (aO (eB false) (eB false) (eB false) (eB false) (eB false) (eB false) (eB false) (aK (eB false) (eB false) (eB false) (eB false)))))
noncomputable def Zbe.B:Code:=Tryz.f52.body.getD .skip
noncomputable def Zbe.rs (r:Bool):List CV:=[.one (L.bool r)]
noncomputable def Zbe.p2 (N:Nat) (p_0:Zal) (c2_:Int→Option Bool):Int→Option Bool:=fun v6=>
 if (decide (v6<(len p_0.Checks)))=true then
  chk (0≤v6)<|
  getE (p_0.Checks[Int.toNat v6]?) ZcE fun x7=>
  if (decide (x7.Height<1))=true then
   some false
  else
  if (decide (v6>0))=true then
   chk (0≤(w64 (v6-1)))<|
   chk ((w64 (v6-1))<(len p_0.Checks))<|
   getE (p_0.Checks[Int.toNat (w64 (v6-1))]?) ZcE fun x8=>
   if (decide (x7.Height≤x8.Height))=true then
    some false
   else
   c2_ (w64 (v6+1))
  else
  c2_ (w64 (v6+1))
 else
 some true
noncomputable def Zbe.p1 (N:Nat) (p_0:Zal) (c1_:Int→Option Bool):Int→Option Bool:=fun v3=>
 if (decide (v3<(len p_0.Gates)))=true then
  chk (0≤v3)<|
  getE (p_0.Gates[Int.toNat v3]?) ZcN fun x4=>
  if (decide (x4.Height<0))=true then
   some false
  else
  if (decide (v3>0))=true then
   chk (0≤(w64 (v3-1)))<|
   chk ((w64 (v3-1))<(len p_0.Gates))<|
   getE (p_0.Gates[Int.toNat (w64 (v3-1))]?) ZcN fun x5=>
   if (decide (x4.Height≤x5.Height))=true then
    some false
   else
   c1_ (w64 (v3+1))
  else
  c1_ (w64 (v3+1))
 else
 loopN (Zbe.p2 N p_0) N 0
noncomputable def Zbe (N:Nat) (p_0:Zal):Option Bool:=
 optE (ZbU N p_0) fun x1=>
 if (!x1)=true then
  some false
 else
 optE (ZaR N p_0.Genesis) fun x2=>
 if (!x2)=true then
  some false
 else
 loopN (Zbe.p1 N p_0) N 0
noncomputable def Zbe.p2.S (p_0:Zal) (v6:Int) (st:LL):S:=mkS 72 [(1,.one (.adr (.site 1) 0)),(45,.one (.l (L.sl 33 p_0.Checks))),(46,.one (.l (L.int .i64 (len p_0.Checks)))),(47,.one (.l (L.int .i64 v6)))] [(1,.cells p_0.ls)] st
noncomputable def Zbe.p1.S (p_0:Zal) (v3:Int) (st:LL):S:=mkS 72 [(1,.one (.adr (.site 1) 0)),(17,.one (.l (L.sl 2 p_0.Gates))),(18,.one (.l (L.int .i64 (len p_0.Gates)))),(19,.one (.l (L.int .i64 v3)))] [(1,.cells p_0.ls)] st
theorem Zbe.p2_ok {p_0 v6 st r c2_ J2} (h:Zbe.p2 N p_0 c2_ v6=some r) (hE:En Tryz.f52 g0 w0 (Zbe.rs r) st R) (hc2 : ∀v6,c2_ v6=some r→At g0 w0 (Zbe.p2.S p_0 v6 st) J2):At g0 w0 (Zbe.p2.S p_0 v6 st) (XK Tryz.prog R (.c (csub Zbe.B [1,1,1,0,1,0,0]) :: .h J2 :: [.b 2,.c (csub Zbe.B [1,1,1,1])])):=by
 unfold Zbe.p2 at h
 refine iteB h (fun c14 h1=>?_) (fun c14 h2=>?_)<;>clear h
 ·obtain ⟨c15,h3⟩:=ZaO h1;clear h1
  obtain ⟨x7,c16,h4⟩:=ZcT h3;clear h3
  refine iteB h4 (fun c17 h5=>?_) (fun c17 h6=>?_)<;>clear h4
  ·obtain rfl:=Zac h5
   exact afd fol hE [.r [],.c true,.r [(2,{oe:=x7.ls})],.d {ds:=[(4,{want:=false}),(5,{want:=false}),(6,{want:=false}),(17,{want:=false})],hv:=0,Hs:=[]},.c true,.r []] [] 0 [] (aO c14 c15 (oD c14) c16 c17 c17 c17 (aJ c17 c17 (eB true)))
  ·refine iteB h6 (fun c18 h7=>?_) (fun c18 h8=>?_)<;>clear h6
   ·obtain ⟨c19,c20,h9⟩:=ck2 h7;clear h7
    obtain ⟨x8,c21,h10⟩:=ZcT h9;clear h9
    refine iteB h10 (fun c22 h11=>?_) (fun c22 h12=>?_)<;>clear h10
    ·obtain rfl:=Zac h11
     exact afd fol hE [.r [],.c true,.r [(2,{oe:=x7.ls})],.d {ds:=[(15,{oe:=x8.ls}),(18,{yes:=false})],hv:=0,Hs:=[]},.c true,.r []] [] 0 [] (aO c14 c15 (oD c14) c16 c17 c17 c17 (aO c18 c18 c18 c18 c18 c18 c18 (aO c19 c20 c18 c18 c21 c18 c17 (aJ c18 c17 c22))))
    ·exact and_ fol [.r [],.c true,.r [(2,{oe:=x7.ls})],.d {ds:=[(15,{oe:=x8.ls}),(18,{yes:=false})],hv:=0,Hs:=[]},.c false,.r []] [1,45,46,47] [1] (aO c14 c15 (oD c14) c16 c17 c17 c17 (aO c18 c18 c18 c18 c18 c18 c18 (aO c19 c20 c18 c18 c21 c18 c17 (aJ c18 c17 c22)))) (hc2 (w64 (v6+1)) h12)
   ·exact and_ fol [.r [],.c true,.r [(2,{oe:=x7.ls})],.d {ds:=[(7,{want:=false}),(8,{want:=false}),(9,{want:=false}),(10,{want:=false}),(11,{want:=false}),(12,{want:=false}),(13,{want:=false}),(14,{want:=false}),(15,{want:=false}),(16,{want:=false}),(17,{yes:=false}),(18,{yes:=false})],hv:=0,Hs:=[]},.c false,.r []] [1,45,46,47] [1] (aO c14 c15 (oD c14) c16 c17 c17 c17 (aO c18 c18 c18 c18 c18 c18 c18 (aN c18 c18 c18 c17 c18 c17 (eB false)))) (hc2 (w64 (v6+1)) h8)
 ·obtain rfl:=Zac h2
  exact af fol hE [.r [],.c false,.r []] [] 0 [] c14
theorem Zbe.p1_ok {p_0 v3 st r c1_ J1} (h:Zbe.p1 N p_0 c1_ v3=some r) (hE:En Tryz.f52 g0 w0 (Zbe.rs r) st R) (hc1 : ∀v3,c1_ v3=some r→At g0 w0 (Zbe.p1.S p_0 v3 st) J1):At g0 w0 (Zbe.p1.S p_0 v3 st) (XK Tryz.prog R (.c (csub Zbe.B [1,1,0,1,0,0]) :: .h J1 :: [.b 0,.c (csub Zbe.B [1,1,1])])):=by
 unfold Zbe.p1 at h
 refine iteB h (fun c5 h13=>?_) (fun c5 h14=>?_)<;>clear h
 ·obtain ⟨c6,h15⟩:=ZaO h13;clear h13
  obtain ⟨x4,c7,h16⟩:=ZcX h15;clear h15
  refine iteB h16 (fun c8 h17=>?_) (fun c8 h18=>?_)<;>clear h16
  ·obtain rfl:=Zac h17
   exact afd fol hE [.r [],.c true,.r [(2,{oe:=x4.ls})],.d {ds:=[(4,{want:=false}),(5,{want:=false}),(6,{want:=false}),(17,{want:=false})],hv:=0,Hs:=[]},.c true,.r []] [] 0 [] (aO c5 c6 (oD c5) c7 c8 c8 c8 (aJ c8 c8 (eB true)))
  ·refine iteB h18 (fun c9 h19=>?_) (fun c9 h20=>?_)<;>clear h18
   ·obtain ⟨c10,c11,h21⟩:=ck2 h19;clear h19
    obtain ⟨x5,c12,h22⟩:=ZcX h21;clear h21
    refine iteB h22 (fun c13 h23=>?_) (fun c13 h24=>?_)<;>clear h22
    ·obtain rfl:=Zac h23
     exact afd fol hE [.r [],.c true,.r [(2,{oe:=x4.ls})],.d {ds:=[(15,{oe:=x5.ls}),(18,{yes:=false})],hv:=0,Hs:=[]},.c true,.r []] [] 0 [] (aO c5 c6 (oD c5) c7 c8 c8 c8 (aO c9 c9 c9 c9 c9 c9 c9 (aO c10 c11 c9 c9 c12 c9 c8 (aJ c9 c8 c13))))
    ·exact and_ fol [.r [],.c true,.r [(2,{oe:=x4.ls})],.d {ds:=[(15,{oe:=x5.ls}),(18,{yes:=false})],hv:=0,Hs:=[]},.c false,.r []] [1,17,18,19] [1] (aO c5 c6 (oD c5) c7 c8 c8 c8 (aO c9 c9 c9 c9 c9 c9 c9 (aO c10 c11 c9 c9 c12 c9 c8 (aJ c9 c8 c13)))) (hc1 (w64 (v3+1)) h24)
   ·exact and_ fol [.r [],.c true,.r [(2,{oe:=x4.ls})],.d {ds:=[(7,{want:=false}),(8,{want:=false}),(9,{want:=false}),(10,{want:=false}),(11,{want:=false}),(12,{want:=false}),(13,{want:=false}),(14,{want:=false}),(15,{want:=false}),(16,{want:=false}),(17,{yes:=false}),(18,{yes:=false})],hv:=0,Hs:=[]},.c false,.r []] [1,17,18,19] [1] (aO c5 c6 (oD c5) c7 c8 c8 c8 (aO c9 c9 c9 c9 c9 c9 c9 (aN c9 c9 c9 c8 c9 c8 (eB false)))) (hc1 (w64 (v3+1)) h20)
 ·exact aq fol [.r [],.c false,.r []] [1,45,46,47] [1] c5 (At.loop N (At.loopN (fun y:Int=>Zbe.p2.S p_0 y st) (fun c J hc y h=>Zbe.p2_ok h hE (fun v6=>hc v6)) N 0 h14))
theorem Zbe.snd {p_0:Zal} {r:Bool} (h:Zbe N p_0=some r):SndQ Tryz.prog 52 [.agg p_0.ls] (Zbe.rs r):=fun st=>
 sO Zbe.B Tryz.func52 fun g0 w0 R hE=>by
  unfold Zbe at h
  obtain ⟨x1,c1,h25⟩:=Zaf h;clear h
  refine iteB h25 (fun c2 h26=>?_) (fun c2 h27=>?_)<;>clear h25
  ·obtain rfl:=Zac h26
   exact af fol hE [.r [],.r [(1,{rs:=[.one (L.bool x1)],m:=1}),(4,{want:=false}),(5,{want:=false}),(6,{want:=false}),(7,{want:=false})],.c true,.r []] [] 0 [] (aN (ZbU.snd c1) (not_false (ZbQ c2)) (not_false (ZbQ c2)) (not_false (ZbQ c2)) (not_false (ZbQ c2)) (not_false (ZbQ c2)) (eB true))
  ·obtain ⟨x2,c3,h28⟩:=Zaf h27;clear h27
   refine iteB h28 (fun c4 h29=>?_) (fun c4 h30=>?_)<;>clear h28
   ·obtain rfl:=Zac h29
    exact af fol hE [.r [],.r [(1,{rs:=[.one (L.bool x1)],m:=1}),(6,{rs:=[.one (L.bool x2)],m:=1}),(8,{yes:=false})],.c true,.r []] [] 0 [] (aO (ZbU.snd c1) (not_true (ZaH c2)) (not_true (ZaH c2)) (not_true (ZaH c2)) (ZaR.snd c3) (not_true (ZaH c2)) (not_true (ZaH c2)) c4)
   ·exact aq fol [.r [],.r [(1,{rs:=[.one (L.bool x1)],m:=1}),(6,{rs:=[.one (L.bool x2)],m:=1}),(8,{yes:=false})],.c false,.r []] [1,17,18,19] [1] (aO (ZbU.snd c1) (not_true (ZaH c2)) (not_true (ZaH c2)) (not_true (ZaH c2)) (ZaR.snd c3) (not_true (ZaH c2)) (not_true (ZaH c2)) c4) (At.loop N (At.loopN (fun y:Int=>Zbe.p1.S p_0 y st) (fun c J hc y h=>Zbe.p1_ok h hE (fun v3=>hc v3)) N 0 h30))
noncomputable def ZaS.B:Code:=Tryz.f112.body.getD .skip
noncomputable def ZaS.rs (r:(List Int)×Bool):List CV:=[.agg [L.arr .u64 4 r.1],.one (L.bool r.2)]
noncomputable def ZaS.p1 (N:Nat) (b_1_0:List Int) (c1_:(Int×Int×(List Int))→Option ((List Int)×Bool)):(Int×Int×(List Int))→Option ((List Int)×Bool):=fun (c_1,v2,a_5)=>
 if (decide (v2<4))=true then
  chk (0≤v2)<|
  optE (Zcw N (List.getD a_5 (Int.toNat v2) 0) (List.getD b_1_0 (Int.toNat v2) 0) c_1) fun (x6,x7)=>
  c1_ (x7,w64 (v2+1),List.set a_5 (Int.toNat v2) x6)
 else
 some (a_5,c_1 != 0)
noncomputable def ZaS (N:Nat) (a_0_0 b_1_0:List Int):Option ((List Int)×Bool):=
 loopN (ZaS.p1 N b_1_0) N (0,0,a_0_0)
noncomputable def ZaS.p1.S (c_1 v2:Int) (a_5 b_1_0:List Int) (st:LL):S:=mkS 28 [(2,.one (.adr (.site 2) 0)),(3,.one (.adr (.site 3) 0)),(4,.one (.adr (.site 4) 0)),(6,.one (.l (L.int .u64 c_1))),(8,.one (.l (L.int .i64 v2)))] [(2,.cells [L.arr .u64 4 a_5]),(3,.cells [L.arr .u64 4 b_1_0]),(4,.cells [L.arr .u64 4 (List.replicate 4 0)])] st
theorem ZaS.p1_ok {c_1 v2 a_5 b_1_0 st r c1_ J1} (h:ZaS.p1 N b_1_0 c1_ (c_1,v2,a_5)=some r) (hE:En Tryz.f112 g0 w0 (ZaS.rs r) st R) (hc1 : ∀c_1 v2 a_5,c1_ (c_1,v2,a_5)=some r→At g0 w0 (ZaS.p1.S c_1 v2 a_5 b_1_0 st) J1):At g0 w0 (ZaS.p1.S c_1 v2 a_5 b_1_0 st) (XK Tryz.prog R (.c (csub ZaS.B [1,1,0,1,0,0]) :: .h J1 :: [.b 0,.c (csub ZaS.B [1,1,1])])):=by
 unfold ZaS.p1 at h
 refine iteB h (fun c4 h1=>?_) (fun c4 h2=>?_)<;>clear h
 ·obtain ⟨c5,h3⟩:=ZaO h1;clear h1
  obtain ⟨⟨x6,x7⟩,c6,h4⟩:=Zaf h3;clear h3
  exact and_ fol [.r [],.c true,.r [],.d {ds:=[(8,{rs:=[.one (L.int .u64 x6),.one (L.int .u64 x7)],m:=4})],hv:=8192,Hs:=[8192]},.r []] [2,3,4,6,8] [2,3,4] (aO c4 c5 (oD c4) c5 (oD c4) (Zcw.snd c6) c5 (oD c4)) (hc1 x7 (w64 (v2+1)) (List.set a_5 (Int.toNat v2) x6) h4)
 ·obtain rfl:=Zac h2
  exact af fol hE [.r [],.c false,.r []] [] 0 [] c4
theorem ZaS.snd {a_0_0 b_1_0:List Int} {r:(List Int)×Bool} (h:ZaS N a_0_0 b_1_0=some r):SndQ Tryz.prog 112 [.agg [L.arr .u64 4 a_0_0],.agg [L.arr .u64 4 b_1_0]] (ZaS.rs r):=fun st=>
 sO ZaS.B Tryz.func112 fun g0 w0 R hE=>by
  unfold ZaS at h
  exact aq fol [.r [],.r [],.r []] [2,3,4,6,8] [2,3,4] trivial (At.loop N (At.loopN (fun y:Int×Int×(List Int)=>ZaS.p1.S y.1 y.2.1 y.2.2 b_1_0 st) (fun c J hc y h=>ZaS.p1_ok (c_1:=y.1) (v2:=y.2.1) (a_5:=y.2.2) h hE (fun c_1 v2 a_5=>hc (c_1,v2,a_5))) N (0,0,a_0_0) h))
noncomputable def Zbi.B:Code:=Tryz.f151.body.getD .skip
noncomputable def Zbi.rs (r:(List Int)):List CV:=[.agg [L.arr .u64 4 r]]
noncomputable def Zbi.p1 (N:Nat) (c1_:(Int×(List Int))→Option (List Int)):(Int×(List Int))→Option (List Int):=fun (v1,a_2)=>
 if (decide (v1<4))=true then
  chk (0≤v1)<|
  c1_ (w64 (v1+1),List.set a_2 (Int.toNat v1) (bitsOf .xor .u64 (IntKind.max IntKind.u64) (List.getD a_2 (Int.toNat v1) 0)))
 else
 some a_2
noncomputable def Zbi (N:Nat) (a_0_0:List Int):Option (List Int):=
 loopN (Zbi.p1 N) N (0,a_0_0)
noncomputable def Zbi.p1.S (v1:Int) (a_2:List Int) (st:LL):S:=mkS 15 [(1,.one (.adr (.site 1) 0)),(2,.one (.adr (.site 2) 0)),(4,.one (.l (L.int .i64 v1)))] [(1,.cells [L.arr .u64 4 a_2]),(2,.cells [L.arr .u64 4 (List.replicate 4 0)])] st
theorem Zbi.p1_ok {v1 a_2 st r c1_ J1} (h:Zbi.p1 N c1_ (v1,a_2)=some r) (hE:En Tryz.f151 g0 w0 (Zbi.rs r) st R) (hc1 : ∀v1 a_2,c1_ (v1,a_2)=some r→At g0 w0 (Zbi.p1.S v1 a_2 st) J1):At g0 w0 (Zbi.p1.S v1 a_2 st) (XK Tryz.prog R (.c (csub Zbi.B [1,0,1,0,0]) :: .h J1 :: [.b 0,.c (csub Zbi.B [1,1])])):=by
 unfold Zbi.p1 at h
 refine iteB h (fun c3 h1=>?_) (fun c3 h2=>?_)<;>clear h
 ·obtain ⟨c4,h3⟩:=ZaO h1;clear h1
  exact an fol [.r [],.c true,.r [],.r [],.r []] [1,2,4] [1,2] (aL c3 c4 (oD c3) c4 (oD c3)) (hc1 (w64 (v1+1)) (List.set a_2 (Int.toNat v1) (bitsOf .xor .u64 (IntKind.max IntKind.u64) (List.getD a_2 (Int.toNat v1) 0))) h3)
 ·obtain rfl:=Zac h2
  exact af fol hE [.r [],.c false,.r []] [] 0 [] c3
theorem Zbi.snd {a_0_0:List Int} {r:(List Int)} (h:Zbi N a_0_0=some r):SndQ Tryz.prog 151 [.agg [L.arr .u64 4 a_0_0]] (Zbi.rs r):=fun st=>
 sO Zbi.B Tryz.func151 fun g0 w0 R hE=>by
  unfold Zbi at h
  exact aq fol [.r [],.r []] [1,2,4] [1,2] trivial (At.loop N (At.loopN (fun y:Int×(List Int)=>Zbi.p1.S y.1 y.2 st) (fun c J hc y h=>Zbi.p1_ok (v1:=y.1) (a_2:=y.2) h hE (fun v1 a_2=>hc (v1,a_2))) N (0,a_0_0) h))
noncomputable def Zap.B:Code:=Tryz.f153.body.getD .skip
noncomputable def Zap.rs (r:Int):List CV:=[.one (L.int .i64 r)]
noncomputable def Zap.p3 (N:Nat) (x_5 n_6:Int):Option Int:=
 chk (0≤(v8 (x_5)))<|
 chk ((v8 (x_5))<((ByteArray.size (ByteArray.mk #[0,1,2,2,3,3,3,3,4,4,4,4,4,4,4,4,5,5,5,5,5,5,5,5,5,5,5,5,5,5,5,5,6,6,6,6,6,6,6,6,6,6,6,6,6,6,6,6,6,6,6,6,6,6,6,6,6,6,6,6,6,6,6,6,7,7,7,7,7,7,7,7,7,7,7,7,7,7,7,7,7,7,7,7,7,7,7,7,7,7,7,7,7,7,7,7,7,7,7,7,7,7,7,7,7,7,7,7,7,7,7,7,7,7,7,7,7,7,7,7,7,7,7,7,7,7,7,7,8,8,8,8,8,8,8,8,8,8,8,8,8,8,8,8,8,8,8,8,8,8,8,8,8,8,8,8,8,8,8,8,8,8,8,8,8,8,8,8,8,8,8,8,8,8,8,8,8,8,8,8,8,8,8,8,8,8,8,8,8,8,8,8,8,8,8,8,8,8,8,8,8,8,8,8,8,8,8,8,8,8,8,8,8,8,8,8,8,8,8,8,8,8,8,8,8,8,8,8,8,8,8,8,8,8,8,8,8,8,8,8,8,8,8,8,8,8,8,8,8,8,8,8,8,8,8,8]):Nat):Int))<|
 some (w64 (n_6+(w64 (((UInt8.toNat (List.getD (Array.toList (ByteArray.data (ByteArray.mk #[0,1,2,2,3,3,3,3,4,4,4,4,4,4,4,4,5,5,5,5,5,5,5,5,5,5,5,5,5,5,5,5,6,6,6,6,6,6,6,6,6,6,6,6,6,6,6,6,6,6,6,6,6,6,6,6,6,6,6,6,6,6,6,6,7,7,7,7,7,7,7,7,7,7,7,7,7,7,7,7,7,7,7,7,7,7,7,7,7,7,7,7,7,7,7,7,7,7,7,7,7,7,7,7,7,7,7,7,7,7,7,7,7,7,7,7,7,7,7,7,7,7,7,7,7,7,7,7,8,8,8,8,8,8,8,8,8,8,8,8,8,8,8,8,8,8,8,8,8,8,8,8,8,8,8,8,8,8,8,8,8,8,8,8,8,8,8,8,8,8,8,8,8,8,8,8,8,8,8,8,8,8,8,8,8,8,8,8,8,8,8,8,8,8,8,8,8,8,8,8,8,8,8,8,8,8,8,8,8,8,8,8,8,8,8,8,8,8,8,8,8,8,8,8,8,8,8,8,8,8,8,8,8,8,8,8,8,8,8,8,8,8,8,8,8,8,8,8,8,8,8,8,8,8,8,8]))) (Int.toNat (v8 (x_5))) 0):Nat):Int)))))
noncomputable def Zap.p2 (N:Nat) (x_3 n_4:Int):Option Int:=
 if (decide (x_3≥256))=true then
  Zap.p3 N (shrOf .u64 x_3 8) (w64 (n_4+8))
 else
 Zap.p3 N x_3 n_4
noncomputable def Zap.p1 (N:Nat) (x_1 n_2:Int):Option Int:=
 if (decide (x_1≥65536))=true then
  Zap.p2 N (shrOf .u64 x_1 16) (w64 (n_2+16))
 else
 Zap.p2 N x_1 n_2
noncomputable def Zap (N:Nat) (x_0:Int):Option Int:=
 if (decide (x_0≥4294967296))=true then
  Zap.p1 N (shrOf .u64 x_0 32) 32
 else
 Zap.p1 N x_0 0
noncomputable def Zap.p3.S (x_5 n_6:Int) (st:LL):S:=mkS 25 [(0,.one (.l (L.int .u64 x_5))),(2,.one (.l (L.int .i64 n_6)))] [] st
noncomputable def Zap.p2.S (x_3 n_4:Int) (st:LL):S:=mkS 25 [(0,.one (.l (L.int .u64 x_3))),(2,.one (.l (L.int .i64 n_4)))] [] st
noncomputable def Zap.p1.S (x_1 n_2:Int) (st:LL):S:=mkS 25 [(0,.one (.l (L.int .u64 x_1))),(2,.one (.l (L.int .i64 n_2)))] [] st
theorem Zap.p3_ok {x_5 n_6 st r} (h:Zap.p3 N x_5 n_6=some r) (hE:En Tryz.f153 g0 w0 (Zap.rs r) st R):At g0 w0 (Zap.p3.S x_5 n_6 st) (XK Tryz.prog R [.c (csub Zap.B [1,1,1,1])]):=by
 unfold Zap.p3 at h
 obtain ⟨c4,c5,h1⟩:=ck2 h;clear h
 obtain rfl:=Zac h1
 exact af fol hE [.r []] [] 0 [] (aI c4 c5)
theorem Zap.p2_ok {x_3 n_4 st r} (h:Zap.p2 N x_3 n_4=some r) (hE:En Tryz.f153 g0 w0 (Zap.rs r) st R):At g0 w0 (Zap.p2.S x_3 n_4 st) (XK Tryz.prog R [.c (csub Zap.B [1,1,1])]):=by
 unfold Zap.p2 at h
 refine iteB h (fun c3 h2=>?_) (fun c3 h3=>?_)<;>clear h
 ·exact aq fol [.r [],.c true,.r [],.r [],.s 1] [0,2] [] (aI c3 (leI 0 8)) (Zap.p3_ok h2 hE)
 ·exact aq fol [.r [],.c false,.s 1] [0,2] [] c3 (Zap.p3_ok h3 hE)
theorem Zap.p1_ok {x_1 n_2 st r} (h:Zap.p1 N x_1 n_2=some r) (hE:En Tryz.f153 g0 w0 (Zap.rs r) st R):At g0 w0 (Zap.p1.S x_1 n_2 st) (XK Tryz.prog R [.c (csub Zap.B [1,1])]):=by
 unfold Zap.p1 at h
 refine iteB h (fun c2 h4=>?_) (fun c2 h5=>?_)<;>clear h
 ·exact aq fol [.r [],.c true,.r [],.r [],.s 1] [0,2] [] (aI c2 (leI 0 16)) (Zap.p2_ok h4 hE)
 ·exact aq fol [.r [],.c false,.s 1] [0,2] [] c2 (Zap.p2_ok h5 hE)
theorem Zap.snd {x_0:Int} {r:Int} (h:Zap N x_0=some r):SndQ Tryz.prog 153 [.one (L.int .u64 x_0)] (Zap.rs r):=fun st=>
 sO Zap.B Tryz.func153 fun g0 w0 R hE=>by
  unfold Zap at h
  refine iteB h (fun c1 h6=>?_) (fun c1 h7=>?_)<;>clear h
  ·exact aq fol [.r [],.r [],.c true,.r [],.r [],.s 1] [0,2] [] (aI c1 (leI 0 32)) (Zap.p1_ok h6 hE)
  ·exact aq fol [.r [],.r [],.c false,.s 1] [0,2] [] c1 (Zap.p1_ok h7 hE)
noncomputable def Zbv.B:Code:=Tryz.f138.body.getD .skip
noncomputable def Zbv.rs (r:Int):List CV:=[.one (L.int .i64 r)]
noncomputable def Zbv.p1 (N:Nat) (a_0_0:List Int) (c1_:Int→Option Int):Int→Option Int:=fun i_1=>
 if (decide (i_1≥0))=true then
  chk (0≤i_1)<|
  chk (i_1<4)<|
  if ((List.getD a_0_0 (Int.toNat i_1) 0) != 0)=true then
   optE (Zap N (List.getD a_0_0 (Int.toNat i_1) 0)) fun x2=>
   some (w64 ((w64 (64*i_1))+x2))
  else
  c1_ (w64 (i_1-1))
 else
 some 0
noncomputable def Zbv (N:Nat) (a_0_0:List Int):Option Int:=
 loopN (Zbv.p1 N a_0_0) N 3
noncomputable def Zbv.p1.S (i_1:Int) (a_0_0:List Int) (st:LL):S:=mkS 19 [(1,.one (.adr (.site 1) 0)),(3,.one (.l (L.int .i64 i_1)))] [(1,.cells [L.arr .u64 4 a_0_0])] st
theorem Zbv.p1_ok {i_1 a_0_0 st r c1_ J1} (h:Zbv.p1 N a_0_0 c1_ i_1=some r) (hE:En Tryz.f138 g0 w0 (Zbv.rs r) st R) (hc1 : ∀i_1,c1_ i_1=some r→At g0 w0 (Zbv.p1.S i_1 a_0_0 st) J1):At g0 w0 (Zbv.p1.S i_1 a_0_0 st) (XK Tryz.prog R (.c (csub Zbv.B [1,0,1,0,0]) :: .h J1 :: [.b 0,.c (csub Zbv.B [1,1])])):=by
 unfold Zbv.p1 at h
 refine iteB h (fun c1 h1=>?_) (fun c1 h2=>?_)<;>clear h
 ·obtain ⟨c2,c3,h3⟩:=ck2 h1;clear h1
  refine iteB h3 (fun c4 h4=>?_) (fun c4 h5=>?_)<;>clear h3
  ·obtain ⟨x2,c5,h6⟩:=Zaf h4;clear h4
   obtain rfl:=Zac h6
   exact af fol hE [.r [],.c true,.r [],.c true,.r [(5,{rs:=[.one (L.int .i64 x2)],m:=1})]] [] 0 [] (aN c1 c2 c3 c4 c2 c3 (Zap.snd c5))
  ·exact an fol [.r [],.c true,.r [],.c false,.r []] [1,3] [1] (aK c1 c2 c3 c4) (hc1 (w64 (i_1-1)) h5)
 ·obtain rfl:=Zac h2
  exact af fol hE [.r [],.c false,.r []] [] 0 [] c1
theorem Zbv.snd {a_0_0:List Int} {r:Int} (h:Zbv N a_0_0=some r):SndQ Tryz.prog 138 [.agg [L.arr .u64 4 a_0_0]] (Zbv.rs r):=fun st=>
 sO Zbv.B Tryz.func138 fun g0 w0 R hE=>by
  unfold Zbv at h
  exact aq fol [.r [],.r []] [1,3] [1] trivial (At.loop N (At.loopN (fun y:Int=>Zbv.p1.S y a_0_0 st) (fun c J hc y h=>Zbv.p1_ok h hE (fun i_1=>hc i_1)) N 3 h))
noncomputable def Zbx.B:Code:=Tryz.f165.body.getD .skip
noncomputable def Zbx.rs (r:(List Int)×Bool):List CV:=[.agg [L.arr .u64 4 r.1],.one (L.bool r.2)]
noncomputable def Zbx.p1 (N:Nat) (b_1_0:List Int) (c1_:(Int×Int×(List Int))→Option ((List Int)×Bool)):(Int×Int×(List Int))→Option ((List Int)×Bool):=fun (c_1,v2,a_5)=>
 if (decide (v2<4))=true then
  chk (0≤v2)<|
  optE (ZcV N (List.getD a_5 (Int.toNat v2) 0) (List.getD b_1_0 (Int.toNat v2) 0) c_1) fun (x6,x7)=>
  c1_ (x7,w64 (v2+1),List.set a_5 (Int.toNat v2) x6)
 else
 some (a_5,c_1 != 0)
noncomputable def Zbx (N:Nat) (a_0_0 b_1_0:List Int):Option ((List Int)×Bool):=
 loopN (Zbx.p1 N b_1_0) N (0,0,a_0_0)
noncomputable def Zbx.p1.S (c_1 v2:Int) (a_5 b_1_0:List Int) (st:LL):S:=mkS 28 [(2,.one (.adr (.site 2) 0)),(3,.one (.adr (.site 3) 0)),(4,.one (.adr (.site 4) 0)),(6,.one (.l (L.int .u64 c_1))),(8,.one (.l (L.int .i64 v2)))] [(2,.cells [L.arr .u64 4 a_5]),(3,.cells [L.arr .u64 4 b_1_0]),(4,.cells [L.arr .u64 4 (List.replicate 4 0)])] st
theorem Zbx.p1_ok {c_1 v2 a_5 b_1_0 st r c1_ J1} (h:Zbx.p1 N b_1_0 c1_ (c_1,v2,a_5)=some r) (hE:En Tryz.f165 g0 w0 (Zbx.rs r) st R) (hc1 : ∀c_1 v2 a_5,c1_ (c_1,v2,a_5)=some r→At g0 w0 (Zbx.p1.S c_1 v2 a_5 b_1_0 st) J1):At g0 w0 (Zbx.p1.S c_1 v2 a_5 b_1_0 st) (XK Tryz.prog R (.c (csub Zbx.B [1,1,0,1,0,0]) :: .h J1 :: [.b 0,.c (csub Zbx.B [1,1,1])])):=by
 unfold Zbx.p1 at h
 refine iteB h (fun c4 h1=>?_) (fun c4 h2=>?_)<;>clear h
 ·obtain ⟨c5,h3⟩:=ZaO h1;clear h1
  obtain ⟨⟨x6,x7⟩,c6,h4⟩:=Zaf h3;clear h3
  exact and_ fol [.r [],.c true,.r [],.d {ds:=[(8,{rs:=[.one (L.int .u64 x6),.one (L.int .u64 x7)],m:=4})],hv:=8192,Hs:=[8192]},.r []] [2,3,4,6,8] [2,3,4] (aO c4 c5 (oD c4) c5 (oD c4) (ZcV.snd c6) c5 (oD c4)) (hc1 x7 (w64 (v2+1)) (List.set a_5 (Int.toNat v2) x6) h4)
 ·obtain rfl:=Zac h2
  exact af fol hE [.r [],.c false,.r []] [] 0 [] c4
theorem Zbx.snd {a_0_0 b_1_0:List Int} {r:(List Int)×Bool} (h:Zbx N a_0_0 b_1_0=some r):SndQ Tryz.prog 165 [.agg [L.arr .u64 4 a_0_0],.agg [L.arr .u64 4 b_1_0]] (Zbx.rs r):=fun st=>
 sO Zbx.B Tryz.func165 fun g0 w0 R hE=>by
  unfold Zbx at h
  exact aq fol [.r [],.r [],.r []] [2,3,4,6,8] [2,3,4] trivial (At.loop N (At.loopN (fun y:Int×Int×(List Int)=>Zbx.p1.S y.1 y.2.1 y.2.2 b_1_0 st) (fun c J hc y h=>Zbx.p1_ok (c_1:=y.1) (v2:=y.2.1) (a_5:=y.2.2) h hE (fun c_1 v2 a_5=>hc (c_1,v2,a_5))) N (0,0,a_0_0) h))
noncomputable def ZaP.B:Code:=Tryz.f150.body.getD .skip
noncomputable def ZaP.rs (r:(List Int)×(List Int)):List CV:=[.agg [L.arr .u64 4 r.1],.agg [L.arr .u64 4 r.2]]
noncomputable def ZaP.p2 (N:Nat) (c1_:(Int×(List Int)×(List Int))→Option ((List Int)×(List Int))) (i_3:Int) (a_0_0 by_1_0 out_21 rest_20:List Int):Option ((List Int)×(List Int)):=
 c1_ (w64 (i_3-1),out_21,rest_20)
noncomputable def ZaP.p1 (N:Nat) (a_0_0 by_1_0:List Int) (c1_:(Int×(List Int)×(List Int))→Option ((List Int)×(List Int))):(Int×(List Int)×(List Int))→Option ((List Int)×(List Int)):=fun (i_3,out_12,rest_13)=>
 if (decide (i_3≥0))=true then
  optE (Zba N rest_13 1) fun x14=>
  chk (0≤(w64 (Int.tdiv i_3 64)))<|
  chk ((w64 (Int.tdiv i_3 64))<4)<|
  chk (0≤(Int.tmod i_3 64))<|
  if ((shrOf .u64 (List.getD rest_13 3 0) 63)==1)=true then
   optE (Zbx N (List.set x14 0 (bitsOf .or .u64 (List.getD x14 0 0) (bitsOf .and .u64 (shrOf .u64 (List.getD a_0_0 (Int.toNat (w64 (Int.tdiv i_3 64))) 0) (Int.tmod i_3 64)) 1))) by_1_0) fun (x15,x16)=>
   ZaP.p2 N c1_ i_3 a_0_0 by_1_0 (List.set out_12 (Int.toNat (w64 (Int.tdiv i_3 64))) (bitsOf .or .u64 (List.getD out_12 (Int.toNat (w64 (Int.tdiv i_3 64))) 0) (shlOf .u64 1 (Int.tmod i_3 64)))) x15
  else
  optE (ZbL N (List.set x14 0 (bitsOf .or .u64 (List.getD x14 0 0) (bitsOf .and .u64 (shrOf .u64 (List.getD a_0_0 (Int.toNat (w64 (Int.tdiv i_3 64))) 0) (Int.tmod i_3 64)) 1))) by_1_0) fun x17=>
  if (!x17)=true then
   optE (Zbx N (List.set x14 0 (bitsOf .or .u64 (List.getD x14 0 0) (bitsOf .and .u64 (shrOf .u64 (List.getD a_0_0 (Int.toNat (w64 (Int.tdiv i_3 64))) 0) (Int.tmod i_3 64)) 1))) by_1_0) fun (x18,x19)=>
   ZaP.p2 N c1_ i_3 a_0_0 by_1_0 (List.set out_12 (Int.toNat (w64 (Int.tdiv i_3 64))) (bitsOf .or .u64 (List.getD out_12 (Int.toNat (w64 (Int.tdiv i_3 64))) 0) (shlOf .u64 1 (Int.tmod i_3 64)))) x18
  else
  ZaP.p2 N c1_ i_3 a_0_0 by_1_0 out_12 (List.set x14 0 (bitsOf .or .u64 (List.getD x14 0 0) (bitsOf .and .u64 (shrOf .u64 (List.getD a_0_0 (Int.toNat (w64 (Int.tdiv i_3 64))) 0) (Int.tmod i_3 64)) 1)))
 else
 some (out_12,rest_13)
noncomputable def ZaP (N:Nat) (a_0_0 by_1_0:List Int):Option ((List Int)×(List Int)):=
 optE (ZbI N by_1_0) fun x1=>
 if x1=true then
  some (List.replicate 4 0,List.replicate 4 0)
 else
 optE (Zbv N a_0_0) fun x2=>
 loopN (ZaP.p1 N a_0_0 by_1_0) N (w64 (x2-1),List.replicate 4 0,List.replicate 4 0)
noncomputable def ZaP.p2.S (i_3:Int) (a_0_0 by_1_0 out_21 rest_20:List Int) (st:LL):S:=mkS 63 [(2,.one (.adr (.site 2) 0)),(3,.one (.adr (.site 3) 0)),(4,.one (.adr (.site 4) 0)),(5,.one (.adr (.site 5) 0)),(6,.one (.adr (.site 6) 0)),(7,.one (.adr (.site 7) 0)),(8,.one (.l (L.int .i64 i_3)))] [(2,.cells [L.arr .u64 4 a_0_0]),(3,.cells [L.arr .u64 4 by_1_0]),(4,.cells [L.arr .u64 4 (List.replicate 4 0)]),(5,.cells [L.arr .u64 4 (List.replicate 4 0)]),(6,.cells [L.arr .u64 4 out_21]),(7,.cells [L.arr .u64 4 rest_20])] st
noncomputable def ZaP.p1.S (i_3:Int) (a_0_0 by_1_0 out_12 rest_13:List Int) (st:LL):S:=mkS 63 [(2,.one (.adr (.site 2) 0)),(3,.one (.adr (.site 3) 0)),(4,.one (.adr (.site 4) 0)),(5,.one (.adr (.site 5) 0)),(6,.one (.adr (.site 6) 0)),(7,.one (.adr (.site 7) 0)),(8,.one (.l (L.int .i64 i_3)))] [(2,.cells [L.arr .u64 4 a_0_0]),(3,.cells [L.arr .u64 4 by_1_0]),(4,.cells [L.arr .u64 4 (List.replicate 4 0)]),(5,.cells [L.arr .u64 4 (List.replicate 4 0)]),(6,.cells [L.arr .u64 4 out_12]),(7,.cells [L.arr .u64 4 rest_13])] st
theorem ZaP.p2_ok {i_3 a_0_0 by_1_0 out_21 rest_20 st r c1_ J1} (h:ZaP.p2 N c1_ i_3 a_0_0 by_1_0 out_21 rest_20=some r) (hE:En Tryz.f150 g0 w0 (ZaP.rs r) st R) (hc1 : ∀i_3 out_12 rest_13,c1_ (i_3,out_12,rest_13)=some r→At g0 w0 (ZaP.p1.S i_3 a_0_0 by_1_0 out_12 rest_13 st) J1):At g0 w0 (ZaP.p2.S i_3 a_0_0 by_1_0 out_21 rest_20 st) (XK Tryz.prog R [.c (csub ZaP.B [1,1,1,0,1,0,0,1,1]),.h J1,.b 0,.c (csub ZaP.B [1,1,1,1])]):=by
 unfold ZaP.p2 at h
 exact an fol [.r []] [2,3,4,5,6,7,8] [2,3,4,5,6,7] trivial (hc1 (w64 (i_3-1)) out_21 rest_20 h)
theorem ZaP.p1_ok {i_3 a_0_0 by_1_0 out_12 rest_13 st r c1_ J1} (h:ZaP.p1 N a_0_0 by_1_0 c1_ (i_3,out_12,rest_13)=some r) (hE:En Tryz.f150 g0 w0 (ZaP.rs r) st R) (hc1 : ∀i_3 out_12 rest_13,c1_ (i_3,out_12,rest_13)=some r→At g0 w0 (ZaP.p1.S i_3 a_0_0 by_1_0 out_12 rest_13 st) J1):At g0 w0 (ZaP.p1.S i_3 a_0_0 by_1_0 out_12 rest_13 st) (XK Tryz.prog R (.c (csub ZaP.B [1,1,1,0,1,0,0]) :: .h J1 :: [.b 0,.c (csub ZaP.B [1,1,1,1])])):=by
 unfold ZaP.p1 at h
 refine iteB h (fun c14 h1=>?_) (fun c14 h2=>?_)<;>clear h
 ·obtain ⟨x14,c15,h3⟩:=Zaf h1;clear h1
  obtain ⟨c16,c17,c18,h4⟩:=ck3 h3;clear h3
  refine iteB h4 (fun c19 h5=>?_) (fun c19 h6=>?_)<;>clear h4
  ·obtain ⟨⟨x15,x16⟩,c20,h7⟩:=Zaf h5;clear h5
   exact aqd fol [.r [],.c true,.r [],.r [(1,{rs:=[.agg [L.arr .u64 4 x14]],m:=1})],.d {ds:=[],hv:=4096,Hs:=[4096]},.r [(2,{want:=false}),(3,{want:=false}),(4,{want:=false}),(5,{want:=false})],.c true,.r [(2,{rs:=[.agg [L.arr .u64 4 x15],.one (L.bool x16)],m:=1})],.d {ds:=[],hv:=512,Hs:=[512]},.s 4] [2,3,4,5,6,7,8] [2,3,4,5,6,7] (aI c14 (ix 3 4 (aJ (leI 0 63) (Zba.snd c15) (ix 0 4 (aM (neI 64) c16 c17 (neI 64) c18 (ix 0 4 (aO c19 c19 c19 c19 c19 (eB true) (Zbx.snd c20) (aN (neI 64) c16 c17 (neI 64) c18 c16 c17)))))))) (ZaP.p2_ok h7 hE hc1)
  ·obtain ⟨x17,c21,h8⟩:=Zaf h6;clear h6
   refine iteB h8 (fun c22 h9=>?_) (fun c22 h10=>?_)<;>clear h8
   ·obtain ⟨⟨x18,x19⟩,c23,h11⟩:=Zaf h9;clear h9
    exact aqd fol [.r [],.c true,.r [],.r [(1,{rs:=[.agg [L.arr .u64 4 x14]],m:=1})],.d {ds:=[],hv:=4096,Hs:=[4096]},.r [(4,{rs:=[.one (L.bool x17)],m:=1}),(6,{yes:=false})],.c true,.r [(2,{rs:=[.agg [L.arr .u64 4 x18],.one (L.bool x19)],m:=1})],.d {ds:=[],hv:=512,Hs:=[512]},.s 4] [2,3,4,5,6,7,8] [2,3,4,5,6,7] (aI c14 (ix 3 4 (aJ (leI 0 63) (Zba.snd c15) (ix 0 4 (aM (neI 64) c16 c17 (neI 64) c18 (ix 0 4 (aO c19 c19 c19 (ZbL.snd c21) c19 c19 c22 (aO (Zbx.snd c23) (neI 64) c16 c17 (neI 64) c18 c16 c17)))))))) (ZaP.p2_ok h11 hE hc1)
   ·exact aqd fol [.r [],.c true,.r [],.r [(1,{rs:=[.agg [L.arr .u64 4 x14]],m:=1})],.d {ds:=[],hv:=4096,Hs:=[4096]},.r [(4,{rs:=[.one (L.bool x17)],m:=1}),(6,{yes:=false})],.c false,.s 4] [2,3,4,5,6,7,8] [2,3,4,5,6,7] (aI c14 (ix 3 4 (aJ (leI 0 63) (Zba.snd c15) (ix 0 4 (aM (neI 64) c16 c17 (neI 64) c18 (ix 0 4 (aN c19 c19 c19 (ZbL.snd c21) c19 c19 c22))))))) (ZaP.p2_ok h10 hE hc1)
 ·obtain rfl:=Zac h2
  exact afd fol hE [.r [],.c false,.d {ds:=[],hv:=12,Hs:=[4,12]}] [] 0 [] c14
theorem ZaP.snd {a_0_0 by_1_0:List Int} {r:(List Int)×(List Int)} (h:ZaP N a_0_0 by_1_0=some r):SndQ Tryz.prog 150 [.agg [L.arr .u64 4 a_0_0],.agg [L.arr .u64 4 by_1_0]] (ZaP.rs r):=fun st=>
 sO ZaP.B Tryz.func150 fun g0 w0 R hE=>by
  unfold ZaP at h
  obtain ⟨x1,c1,h12⟩:=Zaf h;clear h
  refine iteB h12 (fun c2 h13=>?_) (fun c2 h14=>?_)<;>clear h12
  ·obtain rfl:=Zac h13
   exact afd fol hE [.r [],.r [],.r [(1,{rs:=[.one (L.bool x1)],m:=1})],.c true,.d {ds:=[],hv:=12,Hs:=[4,12]}] [] 0 [] (aI (ZbI.snd c1) c2)
  ·obtain ⟨x2,c3,h15⟩:=Zaf h14;clear h14
   exact aq fol [.r [],.r [],.r [(1,{rs:=[.one (L.bool x1)],m:=1})],.c false,.r [(1,{rs:=[.one (L.int .i64 x2)],m:=1})]] [2,3,4,5,6,7,8] [2,3,4,5,6,7] (aJ (ZbI.snd c1) c2 (Zbv.snd c3)) (At.loop N (At.loopN (fun y:Int×(List Int)×(List Int)=>ZaP.p1.S y.1 a_0_0 by_1_0 y.2.1 y.2.2 st) (fun c J hc y h=>ZaP.p1_ok (i_3:=y.1) (out_12:=y.2.1) (rest_13:=y.2.2) h hE (fun i_3 out_12 rest_13=>hc (i_3,out_12,rest_13))) N (w64 (x2-1),List.replicate 4 0,List.replicate 4 0) h15))
noncomputable def Zcu.B:Code:=Tryz.f128.body.getD .skip
noncomputable def Zcu.rs (r:(List Int)):List CV:=[.agg [L.arr .u64 4 r]]
noncomputable def Zcu (N:Nat):Option (List Int):=
 optE (Zbi N (List.replicate 4 0)) fun x1=>
 some x1
theorem Zcu.snd {r:(List Int)} (h:Zcu N=some r):SndQ Tryz.prog 128 [] (Zcu.rs r):=fun st=>
 sO Zcu.B Tryz.func128 fun g0 w0 R hE=>by
  unfold Zcu at h
  obtain ⟨x1,c1,h1⟩:=Zaf h;clear h
  obtain rfl:=Zac h1
  exact af fol hE [.r [],.r [(1,{rs:=[.agg [L.arr .u64 4 x1]],m:=1})]] [] 0 [] (Zbi.snd c1)
noncomputable def ZdC.B:Code:=Tryz.f126.body.getD .skip
noncomputable def ZdC.rs (r:(List Int)):List CV:=[.agg [L.arr .u64 4 r]]
noncomputable def ZdC (N:Nat) (target_0_0:List Int):Option (List Int):=
 optE (ZbC N 1) fun x1=>
 optE (ZaS N target_0_0 x1) fun (x2,x3)=>
 if x3=true then
  some x1
 else
 optE (Zbi N target_0_0) fun x4=>
 optE (ZaP N x4 x2) fun (x5,x6)=>
 optE (ZaS N x5 x1) fun (x7,x8)=>
 if x8=true then
  optE (Zcu N ) fun x9=>
  some x9
 else
 some x7
theorem ZdC.snd {target_0_0:List Int} {r:(List Int)} (h:ZdC N target_0_0=some r):SndQ Tryz.prog 126 [.agg [L.arr .u64 4 target_0_0]] (ZdC.rs r):=fun st=>
 sO ZdC.B Tryz.func126 fun g0 w0 R hE=>by
  unfold ZdC at h
  obtain ⟨x1,c1,h1⟩:=Zaf h;clear h
  obtain ⟨⟨x2,x3⟩,c2,h2⟩:=Zaf h1;clear h1
  refine iteB h2 (fun c3 h3=>?_) (fun c3 h4=>?_)<;>clear h2
  ·obtain rfl:=Zac h3
   exact afd fol hE [.r [],.d {ds:=[(1,{rs:=[.agg [L.arr .u64 4 x1]],m:=1}),(2,{rs:=[.agg [L.arr .u64 4 x2],.one (L.bool x3)],m:=1})],hv:=192,Hs:=[64,192]},.r [],.c true,.r [(0,{rs:=[.agg [L.arr .u64 4 x1]],m:=1})]] [] 0 [] (aM (ZbC.snd c1) (ZbC.snd c1) (ZaS.snd c2) (ZaS.snd c2) c3 (ZbC.snd c1))
  ·obtain ⟨x4,c4,h5⟩:=Zaf h4;clear h4
   obtain ⟨⟨x5,x6⟩,c5,h6⟩:=Zaf h5;clear h5
   obtain ⟨⟨x7,x8⟩,c6,h7⟩:=Zaf h6;clear h6
   refine iteB h7 (fun c7 h8=>?_) (fun c7 h9=>?_)<;>clear h7
   ·obtain ⟨x9,c8,h10⟩:=Zaf h8;clear h8
    obtain rfl:=Zac h10
    exact afd fol hE [.r [],.d {ds:=[(1,{rs:=[.agg [L.arr .u64 4 x1]],m:=1}),(2,{rs:=[.agg [L.arr .u64 4 x2],.one (L.bool x3)],m:=1})],hv:=192,Hs:=[64,192]},.r [],.c false,.d {ds:=[(1,{rs:=[.agg [L.arr .u64 4 x4]],m:=1}),(3,{rs:=[.agg [L.arr .u64 4 x5],.agg [L.arr .u64 4 x6]],m:=1})],hv:=1920,Hs:=[128,256,384,896,1920]},.d {ds:=[(1,{rs:=[.agg [L.arr .u64 4 x1]],m:=1}),(2,{rs:=[.agg [L.arr .u64 4 x7],.one (L.bool x8)],m:=1})],hv:=192,Hs:=[64,192]},.r [],.c true,.r [(0,{rs:=[.agg [L.arr .u64 4 x9]],m:=1})]] [] 0 [] (aO (ZbC.snd c1) (ZbC.snd c1) (ZaS.snd c2) (ZaS.snd c2) c3 (Zbi.snd c4) (Zbi.snd c4) (aO (Zbi.snd c4) (Zbi.snd c4) (ZaP.snd c5) (ZaP.snd c5) (ZaP.snd c5) (ZaP.snd c5) (ZbC.snd c1) (aL (ZbC.snd c1) (ZaS.snd c6) (ZaS.snd c6) c7 (Zcu.snd c8))))
   ·obtain rfl:=Zac h9
    exact afd fol hE [.r [],.d {ds:=[(1,{rs:=[.agg [L.arr .u64 4 x1]],m:=1}),(2,{rs:=[.agg [L.arr .u64 4 x2],.one (L.bool x3)],m:=1})],hv:=192,Hs:=[64,192]},.r [],.c false,.d {ds:=[(1,{rs:=[.agg [L.arr .u64 4 x4]],m:=1}),(3,{rs:=[.agg [L.arr .u64 4 x5],.agg [L.arr .u64 4 x6]],m:=1})],hv:=1920,Hs:=[128,256,384,896,1920]},.d {ds:=[(1,{rs:=[.agg [L.arr .u64 4 x1]],m:=1}),(2,{rs:=[.agg [L.arr .u64 4 x7],.one (L.bool x8)],m:=1})],hv:=192,Hs:=[64,192]},.r [],.c false,.r []] [] 0 [] (aO (ZbC.snd c1) (ZbC.snd c1) (ZaS.snd c2) (ZaS.snd c2) c3 (Zbi.snd c4) (Zbi.snd c4) (aO (Zbi.snd c4) (Zbi.snd c4) (ZaP.snd c5) (ZaP.snd c5) (ZaP.snd c5) (ZaP.snd c5) (ZbC.snd c1) (aK (ZbC.snd c1) (ZaS.snd c6) (ZaS.snd c6) c7)))
noncomputable def Zcb.B:Code:=Tryz.f98.body.getD .skip
noncomputable def Zcb.rs (r:(List Int)):List CV:=[.agg [L.arr .u64 4 r]]
noncomputable def Zcb (N:Nat) (bits_0:Int):Option (List Int):=
 optE (Zas N bits_0) fun (x1,x2,x3)=>
 if x2=true then
  some (List.replicate 4 0)
 else
 if x3=true then
  some (List.replicate 4 0)
 else
 optE (ZbI N x1) fun x4=>
 if x4=true then
  some (List.replicate 4 0)
 else
 optE (ZdC N x1) fun x5=>
 some x5
theorem Zcb.snd {bits_0:Int} {r:(List Int)} (h:Zcb N bits_0=some r):SndQ Tryz.prog 98 [.one (L.int .i64 bits_0)] (Zcb.rs r):=fun st=>
 sO Zcb.B Tryz.func98 fun g0 w0 R hE=>by
  unfold Zcb at h
  obtain ⟨⟨x1,x2,x3⟩,c1,h1⟩:=Zaf h;clear h
  refine iteB h1 (fun c2 h2=>?_) (fun c2 h3=>?_)<;>clear h1
  ·obtain rfl:=Zac h2
   exact af fol hE [.r [],.r [(1,{rs:=[.agg [L.arr .u64 4 x1],.one (L.bool x2),.one (L.bool x3)],m:=1})],.r [(2,{want:=false}),(5,{want:=false}),(6,{want:=false})],.c true,.r []] [] 0 [] (aN (Zas.snd c1) c2 c2 (eB true) (eB true) (eB true) (eB true))
  ·refine iteB h3 (fun c3 h4=>?_) (fun c3 h5=>?_)<;>clear h3
   ·obtain rfl:=Zac h4
    exact af fol hE [.r [],.r [(1,{rs:=[.agg [L.arr .u64 4 x1],.one (L.bool x2),.one (L.bool x3)],m:=1})],.r [(3,{yes:=false}),(5,{want:=false}),(6,{want:=false})],.c true,.r []] [] 0 [] (aN (Zas.snd c1) c2 c2 c3 c3 c3 (eB true))
   ·obtain ⟨x4,c4,h6⟩:=Zaf h5;clear h5
    refine iteB h6 (fun c5 h7=>?_) (fun c5 h8=>?_)<;>clear h6
    ·obtain rfl:=Zac h7
     exact af fol hE [.r [],.r [(1,{rs:=[.agg [L.arr .u64 4 x1],.one (L.bool x2),.one (L.bool x3)],m:=1})],.r [(3,{yes:=false}),(6,{rs:=[.one (L.bool x4)],m:=1}),(7,{yes:=false})],.c true,.r []] [] 0 [] (aO (Zas.snd c1) c2 c2 c3 c3 (ZbI.snd c4) c3 c5)
    ·obtain ⟨x5,c6,h9⟩:=Zaf h8;clear h8
     obtain rfl:=Zac h9
     exact af fol hE [.r [],.r [(1,{rs:=[.agg [L.arr .u64 4 x1],.one (L.bool x2),.one (L.bool x3)],m:=1})],.r [(3,{yes:=false}),(6,{rs:=[.one (L.bool x4)],m:=1}),(7,{yes:=false})],.c false,.r [(1,{rs:=[.agg [L.arr .u64 4 x5]],m:=1})]] [] 0 [] (aO (Zas.snd c1) c2 c2 c3 c3 (ZbI.snd c4) c3 (aI c5 (ZdC.snd c6)))
noncomputable def Zbu.B:Code:=Tryz.f127.body.getD .skip
noncomputable def Zbu.rs (r:(List Int)×Bool):List CV:=[.agg [L.arr .u64 4 r.1],.one (L.bool r.2)]
noncomputable def Zbu.p1 (N:Nat) (list_0:LL) (c1_:(Bool×Int×(List Int))→Option ((List Int)×Bool)):(Bool×Int×(List Int))→Option ((List Int)×Bool):=fun (over_1,v2,out_6)=>
 if (decide (v2<(len list_0)))=true then
  chk (0≤v2)<|
  getE (list_0[Int.toNat v2]?) Zfk fun x7=>
  optE (ZaS N out_6 x7) fun (x8,x9)=>
  if over_1=true then
   c1_ (true,w64 (v2+1),x8)
  else
  c1_ (x9,w64 (v2+1),x8)
 else
 some (out_6,over_1)
noncomputable def Zbu (N:Nat) (list_0:LL):Option ((List Int)×Bool):=
 loopN (Zbu.p1 N list_0) N (false,0,List.replicate 4 0)
noncomputable def Zbu.p1.S (over_1:Bool) (list_0:LL) (v2:Int) (out_6:List Int) (st:LL):S:=mkS 28 [(2,.one (.adr (.site 2) 0)),(4,.one (.adr (.site 4) 0)),(5,.one (.l (L.bool over_1))),(9,.one (.l (L.sl 4 list_0))),(10,.one (.l (L.int .i64 (len list_0)))),(11,.one (.l (L.int .i64 v2)))] [(2,.cells [L.arr .u64 4 (List.replicate 4 0)]),(4,.cells [L.arr .u64 4 out_6])] st
theorem Zbu.p1_ok {over_1 list_0 v2 out_6 st r c1_ J1} (h:Zbu.p1 N list_0 c1_ (over_1,v2,out_6)=some r) (hE:En Tryz.f127 g0 w0 (Zbu.rs r) st R) (hc1 : ∀over_1 v2 out_6,c1_ (over_1,v2,out_6)=some r→At g0 w0 (Zbu.p1.S over_1 list_0 v2 out_6 st) J1):At g0 w0 (Zbu.p1.S over_1 list_0 v2 out_6 st) (XK Tryz.prog R (.c (csub Zbu.B [1,1,1,0,1,0,0]) :: .h J1 :: [.b 0,.c (csub Zbu.B [1,1,1,1])])):=by
 unfold Zbu.p1 at h
 refine iteB h (fun c6 h1=>?_) (fun c6 h2=>?_)<;>clear h
 ·obtain ⟨c7,h3⟩:=ZaO h1;clear h1
  obtain ⟨x7,c8,h4⟩:=ZhJ h3;clear h3
  obtain ⟨⟨x8,x9⟩,c9,h5⟩:=Zaf h4;clear h4
  refine iteB h5 (fun c10 h6=>?_) (fun c10 h7=>?_)<;>clear h5
  ·exact an fol [.r [],.c true,.r [(1,{oe:=[L.arr .u64 4 x7]})],.r [],.r [(2,{rs:=[.agg [L.arr .u64 4 x8],.one (L.bool x9)],m:=1})],.r [(2,{want:=false})],.r []] [2,4,5,9,10,11] [2,4] (aN c6 c7 (oD c6) c8 (ZaS.snd c9) c10 c10) (hc1 true (w64 (v2+1)) x8 h6)
  ·exact an fol [.r [],.c true,.r [(1,{oe:=[L.arr .u64 4 x7]})],.r [],.r [(2,{rs:=[.agg [L.arr .u64 4 x8],.one (L.bool x9)],m:=1})],.r [(3,{yes:=false})],.r []] [2,4,5,9,10,11] [2,4] (aN c6 c7 (oD c6) c8 (ZaS.snd c9) c10 c10) (hc1 x9 (w64 (v2+1)) x8 h7)
 ·obtain rfl:=Zac h2
  exact af fol hE [.r [],.c false,.r []] [] 0 [] c6
theorem Zbu.snd {list_0:LL} {r:(List Int)×Bool} (h:Zbu N list_0=some r):SndQ Tryz.prog 127 [.one (L.sl 4 list_0)] (Zbu.rs r):=fun st=>
 sO Zbu.B Tryz.func127 fun g0 w0 R hE=>by
  unfold Zbu at h
  exact aq fol [.r [],.r [],.r [],.r []] [2,4,5,9,10,11] [2,4] trivial (At.loop N (At.loopN (fun y:Bool×Int×(List Int)=>Zbu.p1.S y.1 list_0 y.2.1 y.2.2 st) (fun c J hc y h=>Zbu.p1_ok (over_1:=y.1) (v2:=y.2.1) (out_6:=y.2.2) h hE (fun over_1 v2 out_6=>hc (over_1,v2,out_6))) N (false,0,List.replicate 4 0) h))
noncomputable def Zdb.B:Code:=Tryz.f99.body.getD .skip
noncomputable def Zdb.rs (r:(List Int)):List CV:=[.agg [L.arr .u64 4 r]]
noncomputable def Zdb (N:Nat) (list_0:LL):Option (List Int):=
 optE (Zbu N list_0) fun (x1,x2)=>
 if x2=true then
  optE (Zcu N ) fun x3=>
  some x3
 else
 some x1
theorem Zdb.snd {list_0:LL} {r:(List Int)} (h:Zdb N list_0=some r):SndQ Tryz.prog 99 [.one (L.sl 4 list_0)] (Zdb.rs r):=fun st=>
 sO Zdb.B Tryz.func99 fun g0 w0 R hE=>by
  unfold Zdb at h
  obtain ⟨⟨x1,x2⟩,c1,h1⟩:=Zaf h;clear h
  refine iteB h1 (fun c2 h2=>?_) (fun c2 h3=>?_)<;>clear h1
  ·obtain ⟨x3,c3,h4⟩:=Zaf h2;clear h2
   obtain rfl:=Zac h4
   exact af fol hE [.r [],.r [(1,{rs:=[.agg [L.arr .u64 4 x1],.one (L.bool x2)],m:=1})],.r [],.c true,.r [(0,{rs:=[.agg [L.arr .u64 4 x3]],m:=1})]] [] 0 [] (aJ (Zbu.snd c1) c2 (Zcu.snd c3))
  ·obtain rfl:=Zac h3
   exact af fol hE [.r [],.r [(1,{rs:=[.agg [L.arr .u64 4 x1],.one (L.bool x2)],m:=1})],.r [],.c false,.r []] [] 0 [] (aI (Zbu.snd c1) c2)
noncomputable def ZaD.B:Code:=Tryz.f66.body.getD .skip
noncomputable def ZaD.rs (r:Int×LL):List CV:=[.one (L.int .i64 r.1)]
noncomputable def ZaD.p1 (N:Nat) (a_7:Option Nat) (behind_3:Zaz) (e_6:ZbG) (st:LL):Option (Int×LL):=
 optE a_7 fun i8=>
 getE (st[i8]?) Zbq fun x9=>
 chk (List.length (x9.list ++ [e_6.ls])*176≤140737488355328)<|
 chk (List.length (x9.spots ++ [behind_3.ls])*96≤140737488355328)<|
 optM (mfind x9.places (L.arr .u8 32 e_6.Id)) (fun j10 e=>Zdg [e] fun x11=>
  some (w64 ((len (x9.list ++ [e_6.ls]))-1),List.set (List.set (List.set (List.set (List.set st i8 (gs x9.lo 15)) i8 (gs (gs x9.lo 15) 16)) i8 (gs (Zan.lo {x9 with list:=x9.list ++ [e_6.ls]}) 16)) i8 (Zan.lo {x9 with list:=x9.list ++ [e_6.ls],spots:=x9.spots ++ [behind_3.ls]})) i8 (Zan.lo (Zan.mk x9.rules (x9.list ++ [e_6.ls]) (x9.spots ++ [behind_3.ls]) (List.set x9.places j10 (L.arr .u8 32 e_6.Id,L.int .i64 (w64 ((len (x9.list ++ [e_6.ls]))-1)))) x9.room))))
 (
  some (w64 ((len (x9.list ++ [e_6.ls]))-1),List.set (List.set (List.set (List.set (List.set st i8 (gs x9.lo 15)) i8 (gs (gs x9.lo 15) 16)) i8 (gs (Zan.lo {x9 with list:=x9.list ++ [e_6.ls]}) 16)) i8 (Zan.lo {x9 with list:=x9.list ++ [e_6.ls],spots:=x9.spots ++ [behind_3.ls]})) i8 (Zan.lo (Zan.mk x9.rules (x9.list ++ [e_6.ls]) (x9.spots ++ [behind_3.ls]) (x9.places ++ [(L.arr .u8 32 e_6.Id,L.int .i64 (w64 ((len (x9.list ++ [e_6.ls]))-1)))]) x9.room))))
noncomputable def ZaD (N:Nat) (a_0:Option Nat) (h_1:Zam) (ahead_2:Int) (behind_3:Zaz) (st:LL):Option (Int×LL):=
 optE (Zcb N h_1.Bits) fun x1=>
 if (ahead_2 != (-1))=true then
  optE a_0 fun i2=>
  getE (st[i2]?) Zbq fun x3=>
  chk (0≤ahead_2)<|
  chk (ahead_2<(len x3.list))<|
  getE (x3.list[0+(Int.toNat ahead_2)]?) ZcM fun x4=>
  optE (Zdb N [[L.arr .u64 4 x4.Work],[L.arr .u64 4 x1]]) fun x5=>
  ZaD.p1 N (some i2) behind_3 (ZbG.mk h_1 behind_3.Prev ahead_2 (w64 (x4.Height+1)) x5) st
 else
 ZaD.p1 N a_0 behind_3 (ZbG.mk h_1 behind_3.Prev ahead_2 0 x1) st
noncomputable def ZaD.p1.S (a_7:Option Nat) (behind_3:Zaz) (e_6:ZbG) (st:LL):S:=mkS 81 [(0,.one (.l (L.ptr a_7))),(7,.one (.adr (.site 7) 0)),(9,.one (.adr (.site 9) 0))] [(7,.cells behind_3.ls),(9,.cells e_6.ls)] st
theorem ZaD.p1_ok {a_7 behind_3 e_6 st r} (h:ZaD.p1 N a_7 behind_3 e_6 st=some r) (hE:En Tryz.f66 g0 w0 (ZaD.rs r) r.2 R):At g0 w0 (ZaD.p1.S a_7 behind_3 e_6 st) (XK Tryz.prog R [.c (csub ZaD.B [1,1,1])]):=by
 unfold ZaD.p1 at h
 obtain ⟨i8,rfl,h1⟩:=Zaf h;clear h
 obtain ⟨x9,c10,h2⟩:=Zbo h1;clear h1
 obtain ⟨c11,c12,h3⟩:=ck2 h2;clear h2
 rcases Zge h3 with ⟨j10,h7,c13,h4⟩ | ⟨c13,h5⟩<;>clear h3
 ·obtain ⟨x11,h8,h6⟩:=Zeg h4;clear h4
  obtain rfl:=ZeA h8
  obtain rfl:=Zac h6
  exact afd fol hE [.d {ds:=[(5,{oc:=x9.lo}),(8,{oe:=x9.lo}),(12,{oc:=gs x9.lo 15}),(15,{oe:=gs x9.lo 15}),(18,{oc:=gs (gs x9.lo 15) 16,mv:=[51]}),(21,{oc:=gs (Zan.lo {x9 with list:=x9.list ++ [e_6.ls]}) 16,mv:=[58]})],hv:=2408832,Hs:=[128,384,16384,16512,16768,49536,311680,2408832],dh:=[(12,0,{oc:=x9.lo}),(12,128,{oc:=x9.lo}),(12,16384,{oc:=x9.lo}),(12,16512,{oc:=x9.lo})]},.d {ds:=[(3,{oc:=Zan.lo {x9 with list:=x9.list ++ [e_6.ls],spots:=x9.spots ++ [behind_3.ls]}}),(9,{oc:=Zan.lo {x9 with list:=x9.list ++ [e_6.ls],spots:=x9.spots ++ [behind_3.ls]}}),(12,{oc:=Zan.lo {x9 with list:=x9.list ++ [e_6.ls],spots:=x9.spots ++ [behind_3.ls]},m:=j10})],hv:=4096,Hs:=[4096]},.r [(3,{oc:=Zan.lo (Zan.mk x9.rules (x9.list ++ [e_6.ls]) (x9.spots ++ [behind_3.ls]) (List.set x9.places j10 (L.arr .u8 32 e_6.Id,L.int .i64 (w64 ((len (x9.list ++ [e_6.ls]))-1)))) x9.room)})]] [] 0 [] (aO c10 c10 c10 c10 z0 (eN (List.length x9.list)) c10 (aO z0 (eN (1)) c11 z0 (eN (List.length x9.list)) c10 z0 (aO (eN (1)) c11 c10 c10 (Zay c10 (gs x9.lo 15)) c10 c10 (aO (Zay c10 (gs x9.lo 15)) z0 (eN (List.length x9.spots)) (Zay c10 (gs x9.lo 15)) z0 (eN (1)) c12 (aO (Zay (Zay c10 (gs x9.lo 15)) (gs (gs x9.lo 15) 16)) z0 (eN (List.length (x9.list ++ [e_6.ls]))) (Zay (Zay (Zay c10 (gs x9.lo 15)) (gs (gs x9.lo 15) 16)) (gs (Zan.lo {x9 with list:=x9.list ++ [e_6.ls]}) 16)) z0 (eN (List.length (x9.spots ++ [behind_3.ls]))) (Zay (Zay (Zay (Zay c10 (gs x9.lo 15)) (gs (gs x9.lo 15) 16)) (gs (Zan.lo {x9 with list:=x9.list ++ [e_6.ls]}) 16)) (Zan.lo {x9 with list:=x9.list ++ [e_6.ls],spots:=x9.spots ++ [behind_3.ls]})) (aK (Zay (Zay (Zay (Zay c10 (gs x9.lo 15)) (gs (gs x9.lo 15) 16)) (gs (Zan.lo {x9 with list:=x9.list ++ [e_6.ls]}) 16)) (Zan.lo {x9 with list:=x9.list ++ [e_6.ls],spots:=x9.spots ++ [behind_3.ls]})) (ex_at c13) (Zay (Zay (Zay (Zay c10 (gs x9.lo 15)) (gs (gs x9.lo 15) 16)) (gs (Zan.lo {x9 with list:=x9.list ++ [e_6.ls]}) 16)) (Zan.lo {x9 with list:=x9.list ++ [e_6.ls],spots:=x9.spots ++ [behind_3.ls]})) (Zay (Zay (Zay (Zay (Zay c10 (gs x9.lo 15)) (gs (gs x9.lo 15) 16)) (gs (Zan.lo {x9 with list:=x9.list ++ [e_6.ls]}) 16)) (Zan.lo {x9 with list:=x9.list ++ [e_6.ls],spots:=x9.spots ++ [behind_3.ls]})) (Zan.lo (Zan.mk x9.rules (x9.list ++ [e_6.ls]) (x9.spots ++ [behind_3.ls]) (List.set x9.places j10 (L.arr .u8 32 e_6.Id,L.int .i64 (w64 ((len (x9.list ++ [e_6.ls]))-1)))) x9.room)))))))))
 ·obtain rfl:=Zac h5
  exact afd fol hE [.d {ds:=[(5,{oc:=x9.lo}),(8,{oe:=x9.lo}),(12,{oc:=gs x9.lo 15}),(15,{oe:=gs x9.lo 15}),(18,{oc:=gs (gs x9.lo 15) 16,mv:=[51]}),(21,{oc:=gs (Zan.lo {x9 with list:=x9.list ++ [e_6.ls]}) 16,mv:=[58]})],hv:=2408832,Hs:=[128,384,16384,16512,16768,49536,311680,2408832],dh:=[(12,0,{oc:=x9.lo}),(12,128,{oc:=x9.lo}),(12,16384,{oc:=x9.lo}),(12,16512,{oc:=x9.lo})]},.d {ds:=[(3,{oc:=Zan.lo {x9 with list:=x9.list ++ [e_6.ls],spots:=x9.spots ++ [behind_3.ls]}}),(9,{oc:=Zan.lo {x9 with list:=x9.list ++ [e_6.ls],spots:=x9.spots ++ [behind_3.ls]}}),(12,{oc:=Zan.lo {x9 with list:=x9.list ++ [e_6.ls],spots:=x9.spots ++ [behind_3.ls]},yes:=false})],hv:=4096,Hs:=[4096]},.r [(3,{oc:=Zan.lo (Zan.mk x9.rules (x9.list ++ [e_6.ls]) (x9.spots ++ [behind_3.ls]) (x9.places ++ [(L.arr .u8 32 e_6.Id,L.int .i64 (w64 ((len (x9.list ++ [e_6.ls]))-1)))]) x9.room)})]] [] 0 [] (aO c10 c10 c10 c10 z0 (eN (List.length x9.list)) c10 (aO z0 (eN (1)) c11 z0 (eN (List.length x9.list)) c10 z0 (aO (eN (1)) c11 c10 c10 (Zay c10 (gs x9.lo 15)) c10 c10 (aO (Zay c10 (gs x9.lo 15)) z0 (eN (List.length x9.spots)) (Zay c10 (gs x9.lo 15)) z0 (eN (1)) c12 (aO (Zay (Zay c10 (gs x9.lo 15)) (gs (gs x9.lo 15) 16)) z0 (eN (List.length (x9.list ++ [e_6.ls]))) (Zay (Zay (Zay c10 (gs x9.lo 15)) (gs (gs x9.lo 15) 16)) (gs (Zan.lo {x9 with list:=x9.list ++ [e_6.ls]}) 16)) z0 (eN (List.length (x9.spots ++ [behind_3.ls]))) (Zay (Zay (Zay (Zay c10 (gs x9.lo 15)) (gs (gs x9.lo 15) 16)) (gs (Zan.lo {x9 with list:=x9.list ++ [e_6.ls]}) 16)) (Zan.lo {x9 with list:=x9.list ++ [e_6.ls],spots:=x9.spots ++ [behind_3.ls]})) (aK (Zay (Zay (Zay (Zay c10 (gs x9.lo 15)) (gs (gs x9.lo 15) 16)) (gs (Zan.lo {x9 with list:=x9.list ++ [e_6.ls]}) 16)) (Zan.lo {x9 with list:=x9.list ++ [e_6.ls],spots:=x9.spots ++ [behind_3.ls]})) c13 (Zay (Zay (Zay (Zay c10 (gs x9.lo 15)) (gs (gs x9.lo 15) 16)) (gs (Zan.lo {x9 with list:=x9.list ++ [e_6.ls]}) 16)) (Zan.lo {x9 with list:=x9.list ++ [e_6.ls],spots:=x9.spots ++ [behind_3.ls]})) (Zay (Zay (Zay (Zay (Zay c10 (gs x9.lo 15)) (gs (gs x9.lo 15) 16)) (gs (Zan.lo {x9 with list:=x9.list ++ [e_6.ls]}) 16)) (Zan.lo {x9 with list:=x9.list ++ [e_6.ls],spots:=x9.spots ++ [behind_3.ls]})) (Zan.lo (Zan.mk x9.rules (x9.list ++ [e_6.ls]) (x9.spots ++ [behind_3.ls]) (x9.places ++ [(L.arr .u8 32 e_6.Id,L.int .i64 (w64 ((len (x9.list ++ [e_6.ls]))-1)))]) x9.room)))))))))
theorem ZaD.snd {a_0:Option Nat} {h_1:Zam} {ahead_2:Int} {behind_3:Zaz} {st:LL} {r:Int×LL} (h:ZaD N a_0 h_1 ahead_2 behind_3 st=some r):Snd Tryz.prog 66 [.one (L.ptr a_0),.agg h_1.ls,.one (L.int .i64 ahead_2),.agg behind_3.ls] st (ZaD.rs r) r.2:=
 sO ZaD.B Tryz.func66 fun g0 w0 R hE=>by
  unfold ZaD at h
  obtain ⟨x1,c1,h9⟩:=Zaf h;clear h
  refine iteB h9 (fun c2 h10=>?_) (fun c2 h11=>?_)<;>clear h9
  ·obtain ⟨i2,rfl,h12⟩:=Zaf h10;clear h10
   obtain ⟨x3,c4,h13⟩:=Zbo h12;clear h12
   obtain ⟨c5,c6,h14⟩:=ck2 h13;clear h13
   obtain ⟨x4,c7,h15⟩:=ZdJ h14;clear h14
   obtain ⟨x5,c8,h16⟩:=Zaf h15;clear h15
   exact aqd fol [.r [],.d {ds:=[(6,{rs:=[.agg [L.arr .u64 4 x1]],m:=1})],hv:=768,Hs:=[256,768]},.r [],.c true,.r [(3,{oc:=x3.lo}),(7,{oc:=x3.lo,oe:=x4.ls})],.d {ds:=[(3,{oc:=x3.lo}),(7,{oc:=x3.lo,oe:=x4.ls}),(11,{rs:=[.agg [L.arr .u64 4 x5]],m:=2})],hv:=9216,Hs:=[1024,9216]},.s 1] [0,7,9] [7,9] (aO (Zcb.snd c1) (Zcb.snd c1) c2 c4 c5 c6 c7 (aO c4 c4 c5 c6 c7 c4 z0 (aI (eN (2)) (Zdb.snd c8)))) (ZaD.p1_ok h16 hE)
  ·exact aqd fol [.r [],.d {ds:=[(6,{rs:=[.agg [L.arr .u64 4 x1]],m:=1})],hv:=768,Hs:=[256,768]},.r [],.c false,.s 1] [0,7,9] [7,9] (aJ (Zcb.snd c1) (Zcb.snd c1) c2) (ZaD.p1_ok h11 hE)
noncomputable def Zcn.B:Code:=Tryz.f22.body.getD .skip
noncomputable def Zcn.rs (r:(Option Nat)×Int×LL):List CV:=[.one (L.ptr r.1),.one (L.int .i64 r.2.1)]
noncomputable def Zcn (N:Nat) (p_0:Zal) (room_1:Int) (st:LL):Option ((Option Nat)×Int×LL):=
 optE (Zbe N p_0) fun x1=>
 if (!x1)=true then
  some (none,1,st)
 else
 chk (List.length ([]++p_0.Gates)*16≤140737488355328)<|
 chk (List.length ([]++p_0.Checks)*40≤140737488355328)<|
 optE (Zdl N {p_0 with Gates:=[]++p_0.Gates,Checks:=[]++p_0.Checks}) fun x2=>
 optE (ZaD N (some (List.length st)) p_0.Genesis (-1) x2 (st ++ [Zan.lo (Zan.mk {p_0 with Gates:=[]++p_0.Gates,Checks:=[]++p_0.Checks} [] [] [] (if (512:Int)<(if (1:Int)>room_1 then 1 else room_1) then 512 else (if (1:Int)>room_1 then 1 else room_1)))])) fun (x3,st4)=>
 some ((some (List.length st)),0,st4)
theorem Zcn.snd {p_0:Zal} {room_1:Int} {st:LL} {r:(Option Nat)×Int×LL} (h:Zcn N p_0 room_1 st=some r):Snd Tryz.prog 22 [.agg p_0.ls,.one (L.int .i64 room_1)] st (Zcn.rs r) r.2.2:=
 sO Zcn.B Tryz.func22 fun g0 w0 R hE=>by
  unfold Zcn at h
  obtain ⟨x1,c1,h1⟩:=Zaf h;clear h
  refine iteB h1 (fun c2 h2=>?_) (fun c2 h3=>?_)<;>clear h1
  ·obtain rfl:=Zac h2
   exact af fol hE [.r [],.r [(1,{rs:=[.one (L.bool x1)],m:=1})],.c true,.r []] [] 0 [] (aI (Zbe.snd c1) c2)
  ·obtain ⟨c3,c4,h4⟩:=ck2 h3;clear h3
   obtain ⟨x2,c5,h5⟩:=Zaf h4;clear h4
   obtain ⟨⟨x3,st4⟩,c6,h6⟩:=Zaf h5;clear h5
   obtain rfl:=Zac h6
   exact afd fol hE [.r [],.r [(1,{rs:=[.one (L.bool x1)],m:=1})],.c false,.d {ds:=[(7,{fz:=[12]}),(9,{fz:=[15]})],hv:=676,Hs:=[4,36,164,676]},.r [(5,{ns:=[15,16]}),(6,{m:=1})],.d {ds:=[(4,{rs:=[.agg x2.ls],m:=1}),(5,{rs:=[.one (L.int .i64 x3)],st:=st4})],hv:=32,Hs:=[32]},.r []] [] 0 [] (aO (Zbe.snd c1) c2 c3 c4 z0 (eN (List.length ([]++p_0.Gates))) z0 (aJ (eN (List.length ([]++p_0.Checks))) (Zdl.snd c5) (ZaD.snd c6)))
noncomputable def Zaw.B:Code:=Tryz.f23.body.getD .skip
noncomputable def Zaw.rs (r:Int):List CV:=[.one (L.int .i64 r)]
noncomputable def Zaw (N:Nat) (a_0:Zan):Option Int:=
 some (len a_0.list)
theorem Zaw.snd {a_0:Zan} {r:Int} (h:Zaw N a_0=some r):SndQ Tryz.prog 23 [.one (L.bx 87 a_0.ls)] (Zaw.rs r):=fun st=>
 sO Zaw.B Tryz.func23 fun g0 w0 R hE=>by
  unfold Zaw at h
  obtain rfl:=Zac h
  exact af fol hE [.r [],.r [],.c false,.r [(3,{oe:=a_0.ls})]] [] 0 [] (aI (eB false) (eO a_0.ls))
noncomputable def Zby.B:Code:=Tryz.f27.body.getD .skip
noncomputable def Zby.rs (r:Int):List CV:=[.one (L.int .i64 r)]
noncomputable def Zby (N:Nat) (a_0:Zan):Option Int:=
 some a_0.room
theorem Zby.snd {a_0:Zan} {r:Int} (h:Zby N a_0=some r):SndQ Tryz.prog 27 [.one (L.bx 87 a_0.ls)] (Zby.rs r):=fun st=>
 sO Zby.B Tryz.func27 fun g0 w0 R hE=>by
  unfold Zby at h
  obtain rfl:=Zac h
  exact af fol hE [.r [],.r [],.c false,.r [(3,{oe:=a_0.ls})]] [] 0 [] (aI (eB false) (eO a_0.ls))
noncomputable def ZbX.B:Code:=Tryz.f15.body.getD .skip
noncomputable def ZbX.rs (r:Bool):List CV:=[.one (L.bool r)]
noncomputable def ZbX (N:Nat) (h_0:Zam):Option Bool:=
 if (decide (h_0.Version≥(-2147483648)))=true then
  if (decide (h_0.Version≤2147483647))=true then
   if (decide (h_0.Time≥0))=true then
    if (decide (h_0.Time<4294967296))=true then
     if (decide (h_0.Bits≥0))=true then
      if (decide (h_0.Bits<4294967296))=true then
       if (decide (h_0.Nonce≥0))=true then
        some (decide (h_0.Nonce<4294967296))
       else
       some false
      else
      some false
     else
     some false
    else
    some false
   else
   some false
  else
  some false
 else
 some false
theorem ZbX.snd {h_0:Zam} {r:Bool} (h:ZbX N h_0=some r):SndQ Tryz.prog 15 [.agg h_0.ls] (ZbX.rs r):=fun st=>
 sO ZbX.B Tryz.func15 fun g0 w0 R hE=>by
  unfold ZbX at h
  refine iteB h (fun c1 h1=>?_) (fun c1 h2=>?_)<;>clear h
  ·refine iteB h1 (fun c2 h3=>?_) (fun c2 h4=>?_)<;>clear h1
   ·refine iteB h3 (fun c3 h5=>?_) (fun c3 h6=>?_)<;>clear h3
    ·refine iteB h5 (fun c4 h7=>?_) (fun c4 h8=>?_)<;>clear h5
     ·refine iteB h7 (fun c5 h9=>?_) (fun c5 h10=>?_)<;>clear h7
      ·refine iteB h9 (fun c6 h11=>?_) (fun c6 h12=>?_)<;>clear h9
       ·refine iteB h11 (fun c7 h13=>?_) (fun c7 h14=>?_)<;>clear h11
        ·obtain rfl:=Zac h13
         exact af fol hE [.r [],.r [],.r []] [] 0 [] (aO c1 c1 c1 c1 c2 c2 c2 (aO c2 c3 c3 c3 c3 c3 c4 (aO c4 c4 c4 c5 c5 c5 c5 (aO c5 c6 c6 c6 c6 c7 c7 (aJ c7 c7 c7)))))
        ·obtain rfl:=Zac h14
         exact af fol hE [.r [],.r [],.r [(36,{want:=false}),(37,{want:=false}),(38,{want:=false}),(39,{want:=false}),(40,{yes:=false})]] [] 0 [] (aO c1 c1 c1 c1 c2 c2 c2 (aO c2 c3 c3 c3 c3 c3 c4 (aO c4 c4 c4 c5 c5 c5 c5 (aO c5 c6 c6 c6 c6 c7 c7 (aJ c7 c7 c7)))))
       ·obtain rfl:=Zac h12
        exact af fol hE [.r [],.r [],.r [(31,{want:=false}),(32,{want:=false}),(33,{want:=false}),(34,{yes:=false}),(36,{want:=false}),(37,{want:=false}),(38,{want:=false}),(39,{want:=false}),(40,{yes:=false})]] [] 0 [] (aO c1 c1 c1 c1 c2 c2 c2 (aO c2 c3 c3 c3 c3 c3 c4 (aO c4 c4 c4 c5 c5 c5 c5 (aO c5 c6 c6 c6 c6 (eB false) (eB false) (aJ (eB false) (eB false) (eB false))))))
      ·obtain rfl:=Zac h10
       exact af fol hE [.r [],.r [],.r [(25,{want:=false}),(26,{want:=false}),(27,{want:=false}),(28,{want:=false}),(29,{yes:=false}),(31,{want:=false}),(32,{want:=false}),(33,{want:=false}),(34,{yes:=false}),(36,{want:=false}),(37,{want:=false}),(38,{want:=false}),(39,{want:=false}),(40,{yes:=false})]] [] 0 [] (aO c1 c1 c1 c1 c2 c2 c2 (aO c2 c3 c3 c3 c3 c3 c4 (aO c4 c4 c4 c5 c5 c5 c5 (aO c5 (eB false) (eB false) (eB false) (eB false) (eB false) (eB false) (aJ (eB false) (eB false) (eB false))))))
     ·obtain rfl:=Zac h8
      exact af fol hE [.r [],.r [],.r [(20,{want:=false}),(21,{want:=false}),(22,{want:=false}),(23,{yes:=false}),(25,{want:=false}),(26,{want:=false}),(27,{want:=false}),(28,{want:=false}),(29,{yes:=false}),(31,{want:=false}),(32,{want:=false}),(33,{want:=false}),(34,{yes:=false}),(36,{want:=false}),(37,{want:=false}),(38,{want:=false}),(39,{want:=false}),(40,{yes:=false})]] [] 0 [] (aO c1 c1 c1 c1 c2 c2 c2 (aO c2 c3 c3 c3 c3 c3 c4 (aO c4 c4 c4 (eB false) (eB false) (eB false) (eB false) (aO (eB false) (eB false) (eB false) (eB false) (eB false) (eB false) (eB false) (aJ (eB false) (eB false) (eB false))))))
    ·obtain rfl:=Zac h6
     exact af fol hE [.r [],.r [],.r [(14,{want:=false}),(15,{want:=false}),(16,{want:=false}),(17,{want:=false}),(18,{yes:=false}),(20,{want:=false}),(21,{want:=false}),(22,{want:=false}),(23,{yes:=false}),(25,{want:=false}),(26,{want:=false}),(27,{want:=false}),(28,{want:=false}),(29,{yes:=false}),(31,{want:=false}),(32,{want:=false}),(33,{want:=false}),(34,{yes:=false}),(36,{want:=false}),(37,{want:=false}),(38,{want:=false}),(39,{want:=false}),(40,{yes:=false})]] [] 0 [] (aO c1 c1 c1 c1 c2 c2 c2 (aO c2 c3 c3 c3 c3 c3 (eB false) (aO (eB false) (eB false) (eB false) (eB false) (eB false) (eB false) (eB false) (aO (eB false) (eB false) (eB false) (eB false) (eB false) (eB false) (eB false) (aJ (eB false) (eB false) (eB false))))))
   ·obtain rfl:=Zac h4
    exact af fol hE [.r [],.r [],.r [(9,{want:=false}),(10,{want:=false}),(11,{want:=false}),(12,{yes:=false}),(14,{want:=false}),(15,{want:=false}),(16,{want:=false}),(17,{want:=false}),(18,{yes:=false}),(20,{want:=false}),(21,{want:=false}),(22,{want:=false}),(23,{yes:=false}),(25,{want:=false}),(26,{want:=false}),(27,{want:=false}),(28,{want:=false}),(29,{yes:=false}),(31,{want:=false}),(32,{want:=false}),(33,{want:=false}),(34,{yes:=false}),(36,{want:=false}),(37,{want:=false}),(38,{want:=false}),(39,{want:=false}),(40,{yes:=false})]] [] 0 [] (aO c1 c1 c1 c1 c2 c2 c2 (aO c2 (eB false) (eB false) (eB false) (eB false) (eB false) (eB false) (aO (eB false) (eB false) (eB false) (eB false) (eB false) (eB false) (eB false) (aO (eB false) (eB false) (eB false) (eB false) (eB false) (eB false) (eB false) (aJ (eB false) (eB false) (eB false))))))
  ·obtain rfl:=Zac h2
   exact af fol hE [.r [],.r [],.r [(4,{want:=false}),(5,{want:=false}),(6,{want:=false}),(7,{yes:=false}),(9,{want:=false}),(10,{want:=false}),(11,{want:=false}),(12,{yes:=false}),(14,{want:=false}),(15,{want:=false}),(16,{want:=false}),(17,{want:=false}),(18,{yes:=false}),(20,{want:=false}),(21,{want:=false}),(22,{want:=false}),(23,{yes:=false}),(25,{want:=false}),(26,{want:=false}),(27,{want:=false}),(28,{want:=false}),(29,{yes:=false}),(31,{want:=false}),(32,{want:=false}),(33,{want:=false}),(34,{yes:=false}),(36,{want:=false}),(37,{want:=false}),(38,{want:=false}),(39,{want:=false}),(40,{yes:=false})]] [] 0 [] (aO c1 c1 c1 c1 (eB false) (eB false) (eB false) (aO (eB false) (eB false) (eB false) (eB false) (eB false) (eB false) (eB false) (aO (eB false) (eB false) (eB false) (eB false) (eB false) (eB false) (eB false) (aO (eB false) (eB false) (eB false) (eB false) (eB false) (eB false) (eB false) (aJ (eB false) (eB false) (eB false))))))
noncomputable def ZaN.B:Code:=Tryz.f107.body.getD .skip
noncomputable def ZaN.rs (r:ByteArray):List CV:=[.one (L.str r)]
noncomputable def ZaN.p1 (N:Nat) (size_0:Int) (c1_:(Int×ByteArray×Int)→Option ByteArray):(Int×ByteArray×Int)→Option ByteArray:=fun (u_1,s_3,i_2)=>
 if (decide (i_2<(if (8:Int)<(if (1:Int)>size_0 then 1 else size_0) then 8 else (if (1:Int)>size_0 then 1 else size_0))))=true then
  chk (isB [[L.int .u8 (v8 (Int.tmod u_1 256))]]=true)<|
  chk (ByteArray.size s_3+ByteArray.size (istr (List.map leafI [[L.int .u8 (v8 (Int.tmod u_1 256))]]))≤9223372036854775807)<|
  c1_ (v64 (Int.tdiv u_1 256),s_3++(istr (List.map leafI [[L.int .u8 (v8 (Int.tmod u_1 256))]])),w64 (i_2+1))
 else
 some s_3
noncomputable def ZaN (N:Nat) (size_0 n_1:Int):Option ByteArray:=
 loopN (ZaN.p1 N size_0) N (v64 (n_1),(ByteArray.mk #[]),0)
noncomputable def ZaN.p1.S (size_0 u_1:Int) (s_3:ByteArray) (i_2:Int) (st:LL):S:=mkS 27 [(0,.one (.l (L.int .i64 size_0))),(5,.one (.l (L.int .u64 u_1))),(6,.one (.l (L.str s_3))),(7,.one (.l (L.int .i64 i_2)))] [] st
theorem ZaN.p1_ok {size_0 u_1 s_3 i_2 st r c1_ J1} (h:ZaN.p1 N size_0 c1_ (u_1,s_3,i_2)=some r) (hE:En Tryz.f107 g0 w0 (ZaN.rs r) st R) (hc1 : ∀u_1 s_3 i_2,c1_ (u_1,s_3,i_2)=some r→At g0 w0 (ZaN.p1.S size_0 u_1 s_3 i_2 st) J1):At g0 w0 (ZaN.p1.S size_0 u_1 s_3 i_2 st) (XK Tryz.prog R (.c (csub ZaN.B [1,1,1,0,1,0,0]) :: .h J1 :: [.b 0,.c (csub ZaN.B [1,1,1,1])])):=by
 unfold ZaN.p1 at h
 refine iteB h (fun c4 h1=>?_) (fun c4 h2=>?_)<;>clear h
 ·obtain ⟨c5,c6,h3⟩:=ck2 h1;clear h1
  exact an fol [.r [],.c true,.r [],.r [],.r []] [0,5,6,7] [] (aN c4 (neI 256) z0 (eN (1)) c5 c6 (neI 256)) (hc1 (v64 (Int.tdiv u_1 256)) (s_3++(istr (List.map leafI [[L.int .u8 (v8 (Int.tmod u_1 256))]]))) (w64 (i_2+1)) h3)
 ·obtain rfl:=Zac h2
  exact af fol hE [.r [],.c false,.r []] [] 0 [] c4
theorem ZaN.snd {size_0 n_1:Int} {r:ByteArray} (h:ZaN N size_0 n_1=some r):SndQ Tryz.prog 107 [.one (L.int .i64 size_0),.one (L.int .i64 n_1)] (ZaN.rs r):=fun st=>
 sO ZaN.B Tryz.func107 fun g0 w0 R hE=>by
  unfold ZaN at h
  exact aq fol [.r [],.r [],.r [],.r []] [0,5,6,7] [] trivial (At.loop N (At.loopN (fun y:Int×ByteArray×Int=>ZaN.p1.S size_0 y.1 y.2.1 y.2.2 st) (fun c J hc y h=>ZaN.p1_ok (u_1:=y.1) (s_3:=y.2.1) (i_2:=y.2.2) h hE (fun u_1 s_3 i_2=>hc (u_1,s_3,i_2))) N (v64 (n_1),(ByteArray.mk #[]),0) h))
noncomputable def Zbl.B:Code:=Tryz.f108.body.getD .skip
noncomputable def Zbl.rs (r:ByteArray):List CV:=[.one (L.str r)]
noncomputable def Zbl.p1 (N:Nat) (h_0_0:List Int) (c1_:(ByteArray×Int)→Option ByteArray):(ByteArray×Int)→Option ByteArray:=fun (s_2,i_1)=>
 if (decide (i_1<32))=true then
  chk (0≤i_1)<|
  chk (isB [[L.int .u8 (List.getD h_0_0 (Int.toNat i_1) 0)]]=true)<|
  chk (ByteArray.size s_2+ByteArray.size (istr (List.map leafI [[L.int .u8 (List.getD h_0_0 (Int.toNat i_1) 0)]]))≤9223372036854775807)<|
  c1_ (s_2++(istr (List.map leafI [[L.int .u8 (List.getD h_0_0 (Int.toNat i_1) 0)]])),w64 (i_1+1))
 else
 some s_2
noncomputable def Zbl (N:Nat) (h_0_0:List Int):Option ByteArray:=
 loopN (Zbl.p1 N h_0_0) N ((ByteArray.mk #[]),0)
noncomputable def Zbl.p1.S (s_2:ByteArray) (i_1:Int) (h_0_0:List Int) (st:LL):S:=mkS 17 [(1,.one (.adr (.site 1) 0)),(3,.one (.l (L.str s_2))),(4,.one (.l (L.int .i64 i_1)))] [(1,.cells [L.arr .u8 32 h_0_0])] st
theorem Zbl.p1_ok {s_2 i_1 h_0_0 st r c1_ J1} (h:Zbl.p1 N h_0_0 c1_ (s_2,i_1)=some r) (hE:En Tryz.f108 g0 w0 (Zbl.rs r) st R) (hc1 : ∀s_2 i_1,c1_ (s_2,i_1)=some r→At g0 w0 (Zbl.p1.S s_2 i_1 h_0_0 st) J1):At g0 w0 (Zbl.p1.S s_2 i_1 h_0_0 st) (XK Tryz.prog R (.c (csub Zbl.B [1,1,0,1,0,0]) :: .h J1 :: [.b 0,.c (csub Zbl.B [1,1,1])])):=by
 unfold Zbl.p1 at h
 refine iteB h (fun c5 h1=>?_) (fun c5 h2=>?_)<;>clear h
 ·obtain ⟨c6,c7,c8,h3⟩:=ck3 h1;clear h1
  exact an fol [.r [],.c true,.r [],.r []] [1,3,4] [1] (aN c5 c6 (oD c5) z0 (eN (1)) c7 c8) (hc1 (s_2++(istr (List.map leafI [[L.int .u8 (List.getD h_0_0 (Int.toNat i_1) 0)]]))) (w64 (i_1+1)) h3)
 ·obtain rfl:=Zac h2
  exact af fol hE [.r [],.c false,.r []] [] 0 [] c5
theorem Zbl.snd {h_0_0:List Int} {r:ByteArray} (h:Zbl N h_0_0=some r):SndQ Tryz.prog 108 [.agg [L.arr .u8 32 h_0_0]] (Zbl.rs r):=fun st=>
 sO Zbl.B Tryz.func108 fun g0 w0 R hE=>by
  unfold Zbl at h
  exact aq fol [.r [],.r [],.r []] [1,3,4] [1] trivial (At.loop N (At.loopN (fun y:ByteArray×Int=>Zbl.p1.S y.1 y.2 h_0_0 st) (fun c J hc y h=>Zbl.p1_ok (s_2:=y.1) (i_1:=y.2) h hE (fun s_2 i_1=>hc (s_2,i_1))) N ((ByteArray.mk #[]),0) h))
noncomputable def Zco.B:Code:=Tryz.f84.body.getD .skip
noncomputable def Zco.rs (r:ByteArray):List CV:=[.one (L.str r)]
noncomputable def Zco (N:Nat) (h_0:Zam):Option ByteArray:=
 optE (ZaN N 4 h_0.Version) fun x1=>
 optE (Zbl N h_0.Prev) fun x2=>
 chk (ByteArray.size x1+ByteArray.size x2≤9223372036854775807)<|
 optE (Zbl N h_0.Root) fun x3=>
 chk (ByteArray.size (x1++x2)+ByteArray.size x3≤9223372036854775807)<|
 optE (ZaN N 4 h_0.Time) fun x4=>
 chk (ByteArray.size ((x1++x2)++x3)+ByteArray.size x4≤9223372036854775807)<|
 optE (ZaN N 4 h_0.Bits) fun x5=>
 chk (ByteArray.size (((x1++x2)++x3)++x4)+ByteArray.size x5≤9223372036854775807)<|
 optE (ZaN N 4 h_0.Nonce) fun x6=>
 chk (ByteArray.size ((((x1++x2)++x3)++x4)++x5)+ByteArray.size x6≤9223372036854775807)<|
 some (((((x1++x2)++x3)++x4)++x5)++x6)
theorem Zco.snd {h_0:Zam} {r:ByteArray} (h:Zco N h_0=some r):SndQ Tryz.prog 84 [.agg h_0.ls] (Zco.rs r):=fun st=>
 sO Zco.B Tryz.func84 fun g0 w0 R hE=>by
  unfold Zco at h
  obtain ⟨x1,c1,h1⟩:=Zaf h;clear h
  obtain ⟨x2,c2,h2⟩:=Zaf h1;clear h1
  obtain ⟨c3,h3⟩:=ZaO h2;clear h2
  obtain ⟨x3,c4,h4⟩:=Zaf h3;clear h3
  obtain ⟨c5,h5⟩:=ZaO h4;clear h4
  obtain ⟨x4,c6,h6⟩:=Zaf h5;clear h5
  obtain ⟨c7,h7⟩:=ZaO h6;clear h6
  obtain ⟨x5,c8,h8⟩:=Zaf h7;clear h7
  obtain ⟨c9,h9⟩:=ZaO h8;clear h8
  obtain ⟨x6,c10,h10⟩:=Zaf h9;clear h9
  obtain ⟨c11,h11⟩:=ZaO h10;clear h10
  obtain rfl:=Zac h11
  exact afd fol hE [.r [],.d {ds:=[(2,{rs:=[.one (L.str x1)],m:=1}),(5,{rs:=[.one (L.str x2)],m:=1}),(9,{rs:=[.one (L.str x3)],m:=1})],hv:=0,Hs:=[]},.d {ds:=[(3,{rs:=[.one (L.str x4)],m:=1}),(7,{rs:=[.one (L.str x5)],m:=1}),(11,{rs:=[.one (L.str x6)],m:=1})],hv:=0,Hs:=[]}] [] 0 [] (aO (ZaN.snd c1) (Zbl.snd c2) c3 (Zbl.snd c4) c5 (ZaN.snd c6) c7 (aK (ZaN.snd c8) c9 (ZaN.snd c10) c11))
noncomputable def ZaC.B:Code:=Tryz.f132.body.getD .skip
noncomputable def ZaC.rs (r:ByteArray):List CV:=[.one (L.str r)]
noncomputable def ZaC.p2 (N:Nat) (s_4:ByteArray) (c2_:(Int×ByteArray×Int)→Option ByteArray):(Int×ByteArray×Int)→Option ByteArray:=fun (n_5,tail_7,i_6)=>
 if (decide (i_6<8))=true then
  chk (isB [[L.int .u8 (v8 (Int.tmod n_5 256))]]=true)<|
  chk (ByteArray.size (istr (List.map leafI [[L.int .u8 (v8 (Int.tmod n_5 256))]]))+ByteArray.size tail_7≤9223372036854775807)<|
  c2_ (w64 (Int.tdiv n_5 256),(istr (List.map leafI [[L.int .u8 (v8 (Int.tmod n_5 256))]]))++tail_7,w64 (i_6+1))
 else
 chk (ByteArray.size s_4+ByteArray.size tail_7≤9223372036854775807)<|
 some (s_4++tail_7)
noncomputable def ZaC.p1 (N:Nat) (s_0:ByteArray) (c1_:ByteArray→Option ByteArray):ByteArray→Option ByteArray:=fun s_4=>
 if ((Int.tmod ((ByteArray.size s_4:Nat):Int) 64) != 56)=true then
  chk (ByteArray.size s_4+ByteArray.size (ByteArray.mk #[0])≤9223372036854775807)<|
  c1_ (s_4++(ByteArray.mk #[0]))
 else
 loopN (ZaC.p2 N s_4) N (w64 (8*((ByteArray.size s_0:Nat):Int)),(ByteArray.mk #[]),0)
noncomputable def ZaC (N:Nat) (s_0:ByteArray):Option ByteArray:=
 chk (ByteArray.size s_0+ByteArray.size (ByteArray.mk #[128])≤9223372036854775807)<|
 loopN (ZaC.p1 N s_0) N (s_0++(ByteArray.mk #[128]))
noncomputable def ZaC.p2.S (s_4:ByteArray) (n_5:Int) (tail_7:ByteArray) (i_6:Int) (st:LL):S:=mkS 34 [(0,.one (.l (L.str s_4))),(3,.one (.l (L.int .i64 n_5))),(4,.one (.l (L.str tail_7))),(5,.one (.l (L.int .i64 i_6)))] [] st
noncomputable def ZaC.p1.S (s_4 s_0:ByteArray) (st:LL):S:=mkS 34 [(0,.one (.l (L.str s_4))),(3,.one (.l (L.int .i64 ((ByteArray.size s_0:Nat):Int))))] [] st
theorem ZaC.p2_ok {s_4 n_5 tail_7 i_6 st r c2_ J2} (h:ZaC.p2 N s_4 c2_ (n_5,tail_7,i_6)=some r) (hE:En Tryz.f132 g0 w0 (ZaC.rs r) st R) (hc2 : ∀n_5 tail_7 i_6,c2_ (n_5,tail_7,i_6)=some r→At g0 w0 (ZaC.p2.S s_4 n_5 tail_7 i_6 st) J2):At g0 w0 (ZaC.p2.S s_4 n_5 tail_7 i_6 st) (XK Tryz.prog R (.c (csub ZaC.B [1,1,1,1,1,1,0,1,0,0]) :: .h J2 :: [.b 2,.c (csub ZaC.B [1,1,1,1,1,1,1])])):=by
 unfold ZaC.p2 at h
 refine iteB h (fun c18 h1=>?_) (fun c18 h2=>?_)<;>clear h
 ·obtain ⟨c19,c20,h3⟩:=ck2 h1;clear h1
  exact an fol [.r [],.c true,.r [],.r [],.r []] [0,3,4,5] [] (aN c18 (neI 256) z0 (eN (1)) c19 c20 (neI 256)) (hc2 (w64 (Int.tdiv n_5 256)) ((istr (List.map leafI [[L.int .u8 (v8 (Int.tmod n_5 256))]]))++tail_7) (w64 (i_6+1)) h3)
 ·obtain ⟨c21,h4⟩:=ZaO h2;clear h2
  obtain rfl:=Zac h4
  exact af fol hE [.r [],.c false,.r []] [] 0 [] (aI c18 c21)
theorem ZaC.p1_ok {s_4 s_0 st r c1_ J1} (h:ZaC.p1 N s_0 c1_ s_4=some r) (hE:En Tryz.f132 g0 w0 (ZaC.rs r) st R) (hc1 : ∀s_4,c1_ s_4=some r→At g0 w0 (ZaC.p1.S s_4 s_0 st) J1):At g0 w0 (ZaC.p1.S s_4 s_0 st) (XK Tryz.prog R (.c (csub ZaC.B [1,1,1,0,0,0]) :: .h J1 :: [.b 0,.c (csub ZaC.B [1,1,1,1])])):=by
 unfold ZaC.p1 at h
 refine iteB h (fun c12 h5=>?_) (fun c12 h6=>?_)<;>clear h
 ·obtain ⟨c13,h7⟩:=ZaO h5;clear h5
  exact an fol [.r [],.c true,.r []] [0,3] [] (aJ (neI 64) c12 c13) (hc1 (s_4++(ByteArray.mk #[0])) h7)
 ·exact aq fol [.r [],.c false,.r [],.r [],.r []] [0,3,4,5] [] (aI (neI 64) c12) (At.loop N (At.loopN (fun y:Int×ByteArray×Int=>ZaC.p2.S s_4 y.1 y.2.1 y.2.2 st) (fun c J hc y h=>ZaC.p2_ok (n_5:=y.1) (tail_7:=y.2.1) (i_6:=y.2.2) h hE (fun n_5 tail_7 i_6=>hc (n_5,tail_7,i_6))) N (w64 (8*((ByteArray.size s_0:Nat):Int)),(ByteArray.mk #[]),0) h6))
theorem ZaC.snd {s_0:ByteArray} {r:ByteArray} (h:ZaC N s_0=some r):SndQ Tryz.prog 132 [.one (L.str s_0)] (ZaC.rs r):=fun st=>
 sO ZaC.B Tryz.func132 fun g0 w0 R hE=>by
  unfold ZaC at h
  obtain ⟨c1,h8⟩:=ZaO h;clear h
  exact aq fol [.r [],.r [],.r []] [0,3] [] c1 (At.loop N (At.loopN (fun y:ByteArray=>ZaC.p1.S y s_0 st) (fun c J hc y h=>ZaC.p1_ok h hE (fun s_4=>hc s_4)) N (s_0++(ByteArray.mk #[128])) h8))
noncomputable def ZaI.B:Code:=Tryz.f133.body.getD .skip
noncomputable def ZaI.rs (r:Int):List CV:=[.one (L.int .u32 r)]
noncomputable def ZaI (N:Nat) (x_0 n_1:Int):Option Int:=
 chk (0≤n_1)<|
 chk (0≤(v64 (32-n_1)))<|
 some (v32 ((shrOf .u32 x_0 n_1)+(shlOf .u32 x_0 (v64 (32-n_1)))))
theorem ZaI.snd {x_0 n_1:Int} {r:Int} (h:ZaI N x_0 n_1=some r):SndQ Tryz.prog 133 [.one (L.int .u32 x_0),.one (L.int .u64 n_1)] (ZaI.rs r):=fun st=>
 sO ZaI.B Tryz.func133 fun g0 w0 R hE=>by
  unfold ZaI at h
  obtain ⟨c1,c2,h1⟩:=ck2 h;clear h
  obtain rfl:=Zac h1
  exact af fol hE [.r [],.r []] [] 0 [] (aI c1 c2)
noncomputable def Zdi.B:Code:=Tryz.f134.body.getD .skip
noncomputable def Zdi.rs (r:Int):List CV:=[.one (L.int .u32 r)]
noncomputable def Zdi (N:Nat) (i_0:Int):Option Int:=
 chk (0≤i_0)<|
 chk (i_0<64)<|
 some (List.getD [1116352408,1899447441,3049323471,3921009573,961987163,1508970993,2453635748,2870763221,3624381080,310598401,607225278,1426881987,1925078388,2162078206,2614888103,3248222580,3835390401,4022224774,264347078,604807628,770255983,1249150122,1555081692,1996064986,2554220882,2821834349,2952996808,3210313671,3336571891,3584528711,113926993,338241895,666307205,773529912,1294757372,1396182291,1695183700,1986661051,2177026350,2456956037,2730485921,2820302411,3259730800,3345764771,3516065817,3600352804,4094571909,275423344,430227734,506948616,659060556,883997877,958139571,1322822218,1537002063,1747873779,1955562222,2024104815,2227730452,2361852424,2428436474,2756734187,3204031479,3329325298] (Int.toNat i_0) 0)
theorem Zdi.snd {i_0:Int} {r:Int} (h:Zdi N i_0=some r):SndQ Tryz.prog 134 [.one (L.int .i64 i_0)] (Zdi.rs r):=fun st=>
 sO Zdi.B Tryz.func134 fun g0 w0 R hE=>by
  unfold Zdi at h
  obtain ⟨c1,c2,h1⟩:=ck2 h;clear h
  obtain rfl:=Zac h1
  exact af fol hE [.r [],.r [(0,{m:=3})]] [] 0 [] (aI c1 c2)
noncomputable def Zaj.B:Code:=Tryz.f106.body.getD .skip
noncomputable def Zaj.rs (r:(List Int)):List CV:=[.agg [L.arr .u8 32 r]]
noncomputable def Zaj.p3 (N:Nat) (c2_:(Int×(List Int))→Option (List Int)) (c1_:(Int×(List Int))→Option (List Int)) (x1:ByteArray) (at_2 i_112:Int) (h_111:List Int) (c3_:(Int×(List Int))→Option (List Int)):(Int×(List Int))→Option (List Int):=fun (j_166,w_167)=>
 if (decide (j_166<4))=true then
  chk (0≤i_112)<|
  chk (i_112<64)<|
  chk (0≤(w64 ((w64 (at_2+(w64 (4*i_112))))+j_166)))<|
  chk ((w64 ((w64 (at_2+(w64 (4*i_112))))+j_166))<((ByteArray.size x1:Nat):Int))<|
  c3_ (w64 (j_166+1),List.set w_167 (Int.toNat i_112) (v32 ((v32 ((List.getD w_167 (Int.toNat i_112) 0)*256))+(v32 (((UInt8.toNat (List.getD (Array.toList (ByteArray.data x1)) (Int.toNat (w64 ((w64 (at_2+(w64 (4*i_112))))+j_166))) 0):Nat):Int))))))
 else
 c2_ (w64 (i_112+1),w_167)
noncomputable def Zaj.p6 (N:Nat) (c1_:(Int×(List Int))→Option (List Int)) (x1:ByteArray) (at_2:Int) (s_208:List Int) (c6_:(Int×(List Int))→Option (List Int)):(Int×(List Int))→Option (List Int):=fun (i_216,h_217)=>
 if (decide (i_216<8))=true then
  chk (0≤i_216)<|
  c6_ (w64 (i_216+1),List.set h_217 (Int.toNat i_216) (v32 ((List.getD h_217 (Int.toNat i_216) 0)+(List.getD s_208 (Int.toNat i_216) 0))))
 else
 c1_ (w64 (at_2+64),h_217)
noncomputable def Zaj.p5 (N:Nat) (c1_:(Int×(List Int))→Option (List Int)) (x1:ByteArray) (at_2:Int) (h_111 w_193:List Int) (c5_:(Int×(List Int))→Option (List Int)):(Int×(List Int))→Option (List Int):=fun (i_198,s_208)=>
 if (decide (i_198<64))=true then
  optE (ZaI N (List.getD s_208 4 0) 6) fun x209=>
  optE (ZaI N (List.getD s_208 4 0) 11) fun x210=>
  optE (ZaI N (List.getD s_208 4 0) 25) fun x211=>
  optE (Zdi N i_198) fun x212=>
  chk (0≤i_198)<|
  optE (ZaI N (List.getD s_208 0 0) 2) fun x213=>
  optE (ZaI N (List.getD s_208 0 0) 13) fun x214=>
  optE (ZaI N (List.getD s_208 0 0) 22) fun x215=>
  c5_ (w64 (i_198+1),[v32 ((v32 ((v32 ((v32 ((v32 ((List.getD s_208 7 0)+(bitsOf .xor .u32 (bitsOf .xor .u32 x209 x210) x211)))+(bitsOf .or .u32 (bitsOf .and .u32 (List.getD s_208 4 0) (List.getD s_208 5 0)) (bitsOf .and .u32 (v32 (4294967295-(List.getD s_208 4 0))) (List.getD s_208 6 0)))))+x212))+(List.getD w_193 (Int.toNat i_198) 0)))+(v32 ((bitsOf .xor .u32 (bitsOf .xor .u32 x213 x214) x215)+(bitsOf .or .u32 (bitsOf .or .u32 (bitsOf .and .u32 (List.getD s_208 0 0) (List.getD s_208 1 0)) (bitsOf .and .u32 (List.getD s_208 0 0) (List.getD s_208 2 0))) (bitsOf .and .u32 (List.getD s_208 1 0) (List.getD s_208 2 0)))))),List.getD s_208 0 0,List.getD s_208 1 0,List.getD s_208 2 0,v32 ((List.getD s_208 3 0)+(v32 ((v32 ((v32 ((v32 ((List.getD s_208 7 0)+(bitsOf .xor .u32 (bitsOf .xor .u32 x209 x210) x211)))+(bitsOf .or .u32 (bitsOf .and .u32 (List.getD s_208 4 0) (List.getD s_208 5 0)) (bitsOf .and .u32 (v32 (4294967295-(List.getD s_208 4 0))) (List.getD s_208 6 0)))))+x212))+(List.getD w_193 (Int.toNat i_198) 0)))),List.getD s_208 4 0,List.getD s_208 5 0,List.getD s_208 6 0])
 else
 loopN (Zaj.p6 N c1_ x1 at_2 s_208) N (0,h_111)
noncomputable def Zaj.p4 (N:Nat) (c1_:(Int×(List Int))→Option (List Int)) (x1:ByteArray) (at_2:Int) (h_111:List Int) (c4_:(Int×(List Int))→Option (List Int)):(Int×(List Int))→Option (List Int):=fun (i_168,w_193)=>
 if (decide (i_168<64))=true then
  chk (0≤(w64 (i_168-15)))<|
  chk ((w64 (i_168-15))<64)<|
  optE (ZaI N (List.getD w_193 (Int.toNat (w64 (i_168-15))) 0) 7) fun x194=>
  optE (ZaI N (List.getD w_193 (Int.toNat (w64 (i_168-15))) 0) 18) fun x195=>
  chk (0≤(w64 (i_168-2)))<|
  chk ((w64 (i_168-2))<64)<|
  optE (ZaI N (List.getD w_193 (Int.toNat (w64 (i_168-2))) 0) 17) fun x196=>
  optE (ZaI N (List.getD w_193 (Int.toNat (w64 (i_168-2))) 0) 19) fun x197=>
  chk (0≤(w64 (i_168-16)))<|
  chk ((w64 (i_168-16))<64)<|
  chk (0≤(w64 (i_168-7)))<|
  chk ((w64 (i_168-7))<64)<|
  chk (0≤i_168)<|
  c4_ (w64 (i_168+1),List.set w_193 (Int.toNat i_168) (v32 ((v32 ((v32 ((List.getD w_193 (Int.toNat (w64 (i_168-16))) 0)+(bitsOf .xor .u32 (bitsOf .xor .u32 x194 x195) (v32 (Int.tdiv (List.getD w_193 (Int.toNat (w64 (i_168-15))) 0) 8)))))+(List.getD w_193 (Int.toNat (w64 (i_168-7))) 0)))+(bitsOf .xor .u32 (bitsOf .xor .u32 x196 x197) (v32 (Int.tdiv (List.getD w_193 (Int.toNat (w64 (i_168-2))) 0) 1024))))))
 else
 loopN (Zaj.p5 N c1_ x1 at_2 h_111 w_193) N (0,h_111)
noncomputable def Zaj.p2 (N:Nat) (c1_:(Int×(List Int))→Option (List Int)) (x1:ByteArray) (at_2:Int) (h_111:List Int) (c2_:(Int×(List Int))→Option (List Int)):(Int×(List Int))→Option (List Int):=fun (i_112,w_165)=>
 if (decide (i_112<16))=true then
  loopN (Zaj.p3 N c2_ c1_ x1 at_2 i_112 h_111) N (0,w_165)
 else
 loopN (Zaj.p4 N c1_ x1 at_2 h_111) N (16,w_165)
noncomputable def Zaj.p7 (N:Nat) (h_111:List Int) (c7_:(Int×(List Int))→Option (List Int)):(Int×(List Int))→Option (List Int):=fun (i_218,out_219)=>
 if (decide (i_218<32))=true then
  chk (0≤(w64 (Int.tdiv i_218 4)))<|
  chk ((w64 (Int.tdiv i_218 4))<8)<|
  chk (0≤(v64 (w64 (24-(w64 (8*(Int.tmod i_218 4)))))))<|
  chk (0≤i_218)<|
  c7_ (w64 (i_218+1),List.set out_219 (Int.toNat i_218) (v8 (Int.tmod (shrOf .u32 (List.getD h_111 (Int.toNat (w64 (Int.tdiv i_218 4))) 0) (v64 (w64 (24-(w64 (8*(Int.tmod i_218 4))))))) 256)))
 else
 some out_219
noncomputable def Zaj.p1 (N:Nat) (x1:ByteArray) (c1_:(Int×(List Int))→Option (List Int)):(Int×(List Int))→Option (List Int):=fun (at_2,h_111)=>
 if (decide (at_2<((ByteArray.size x1:Nat):Int)))=true then
  loopN (Zaj.p2 N c1_ x1 at_2 h_111) N (0,List.replicate 64 0)
 else
 loopN (Zaj.p7 N h_111) N (0,List.replicate 32 0)
noncomputable def Zaj (N:Nat) (s_0:ByteArray):Option (List Int):=
 optE (ZaC N s_0) fun x1=>
 loopN (Zaj.p1 N x1) N (0,[1779033703,3144134277,1013904242,2773480762,1359893119,2600822924,528734635,1541459225])
noncomputable def Zaj.p3.S (x1:ByteArray) (at_2 i_112 j_166:Int) (h_111 w_167:List Int) (st:LL):S:=mkS 225 [(2,.one (.adr (.site 2) 0)),(3,.one (.adr (.site 3) 0)),(4,.one (.l (L.str x1))),(5,.one (.l (L.int .i64 at_2))),(6,.one (.adr (.site 6) 0)),(7,.one (.l (L.int .i64 i_112))),(8,.one (.l (L.int .i64 j_166)))] [(2,.cells [L.arr .u8 32 (List.replicate 32 0)]),(3,.cells [L.arr .u32 8 h_111]),(6,.cells [L.arr .u32 64 w_167])] st
noncomputable def Zaj.p6.S (x1:ByteArray) (at_2 i_216:Int) (h_217 s_208:List Int) (st:LL):S:=mkS 225 [(2,.one (.adr (.site 2) 0)),(3,.one (.adr (.site 3) 0)),(4,.one (.l (L.str x1))),(5,.one (.l (L.int .i64 at_2))),(12,.one (.adr (.site 12) 0)),(16,.one (.l (L.int .i64 i_216)))] [(2,.cells [L.arr .u8 32 (List.replicate 32 0)]),(3,.cells [L.arr .u32 8 h_217]),(12,.cells [L.arr .u32 8 s_208])] st
noncomputable def Zaj.p5.S (x1:ByteArray) (at_2 i_198:Int) (h_111 w_193 s_208:List Int) (st:LL):S:=mkS 225 [(2,.one (.adr (.site 2) 0)),(3,.one (.adr (.site 3) 0)),(4,.one (.l (L.str x1))),(5,.one (.l (L.int .i64 at_2))),(6,.one (.adr (.site 6) 0)),(12,.one (.adr (.site 12) 0)),(13,.one (.l (L.int .i64 i_198)))] [(2,.cells [L.arr .u8 32 (List.replicate 32 0)]),(3,.cells [L.arr .u32 8 h_111]),(6,.cells [L.arr .u32 64 w_193]),(12,.cells [L.arr .u32 8 s_208])] st
noncomputable def Zaj.p4.S (x1:ByteArray) (at_2 i_168:Int) (h_111 w_193:List Int) (st:LL):S:=mkS 225 [(2,.one (.adr (.site 2) 0)),(3,.one (.adr (.site 3) 0)),(4,.one (.l (L.str x1))),(5,.one (.l (L.int .i64 at_2))),(6,.one (.adr (.site 6) 0)),(9,.one (.l (L.int .i64 i_168)))] [(2,.cells [L.arr .u8 32 (List.replicate 32 0)]),(3,.cells [L.arr .u32 8 h_111]),(6,.cells [L.arr .u32 64 w_193])] st
noncomputable def Zaj.p2.S (x1:ByteArray) (at_2 i_112:Int) (h_111 w_165:List Int) (st:LL):S:=mkS 225 [(2,.one (.adr (.site 2) 0)),(3,.one (.adr (.site 3) 0)),(4,.one (.l (L.str x1))),(5,.one (.l (L.int .i64 at_2))),(6,.one (.adr (.site 6) 0)),(7,.one (.l (L.int .i64 i_112)))] [(2,.cells [L.arr .u8 32 (List.replicate 32 0)]),(3,.cells [L.arr .u32 8 h_111]),(6,.cells [L.arr .u32 64 w_165])] st
noncomputable def Zaj.p7.S (i_218:Int) (h_111 out_219:List Int) (st:LL):S:=mkS 225 [(2,.one (.adr (.site 2) 0)),(3,.one (.adr (.site 3) 0)),(17,.one (.adr (.site 17) 0)),(18,.one (.l (L.int .i64 i_218)))] [(2,.cells [L.arr .u8 32 (List.replicate 32 0)]),(3,.cells [L.arr .u32 8 h_111]),(17,.cells [L.arr .u8 32 out_219])] st
noncomputable def Zaj.p1.S (x1:ByteArray) (at_2:Int) (h_111:List Int) (st:LL):S:=mkS 225 [(2,.one (.adr (.site 2) 0)),(3,.one (.adr (.site 3) 0)),(4,.one (.l (L.str x1))),(5,.one (.l (L.int .i64 at_2)))] [(2,.cells [L.arr .u8 32 (List.replicate 32 0)]),(3,.cells [L.arr .u32 8 h_111])] st
theorem Zaj.p3_ok {x1 at_2 i_112 j_166 h_111 w_167 st r c2_ c1_ c3_ J2 J1 J3} (h:Zaj.p3 N c2_ c1_ x1 at_2 i_112 h_111 c3_ (j_166,w_167)=some r) (hE:En Tryz.f106 g0 w0 (Zaj.rs r) st R) (hc2 : ∀i_112 w_165,c2_ (i_112,w_165)=some r→At g0 w0 (Zaj.p2.S x1 at_2 i_112 h_111 w_165 st) J2) (hc1 : ∀at_2 h_111,c1_ (at_2,h_111)=some r→At g0 w0 (Zaj.p1.S x1 at_2 h_111 st) J1) (hc3 : ∀j_166 w_167,c3_ (j_166,w_167)=some r→At g0 w0 (Zaj.p3.S x1 at_2 i_112 j_166 h_111 w_167 st) J3):At g0 w0 (Zaj.p3.S x1 at_2 i_112 j_166 h_111 w_167 st) (XK Tryz.prog R (.c (csub Zaj.B [1,1,1,0,1,0,0,1,0,0,1,0,1,0,0,1,0,0,1,0,0]) :: .h J3 :: [.b 4,.b 3,.c (csub Zaj.B [1,1,1,0,1,0,0,1,0,0,1,0,1,0,0,1,1]),.h J2,.b 2,.c (csub Zaj.B [1,1,1,0,1,0,0,1,0,0,1,1]),.b 1,.c (csub Zaj.B [1,1,1,0,1,0,0,1,1]),.h J1,.b 0,.c (csub Zaj.B [1,1,1,1])])):=by
 unfold Zaj.p3 at h
 refine iteB h (fun c293 h1=>?_) (fun c293 h2=>?_)<;>clear h
 ·obtain ⟨c294,c295,c296,c297,h3⟩:=ck4 h1;clear h1
  exact and_ fol [.r [],.c true,.d {ds:=[],hv:=65536,Hs:=[65536]},.r []] [2,3,4,5,6,7,8] [2,3,6] (aN c293 c294 c295 c296 c297 c294 c295) (hc3 (w64 (j_166+1)) (List.set w_167 (Int.toNat i_112) (v32 ((v32 ((List.getD w_167 (Int.toNat i_112) 0)*256))+(v32 (((UInt8.toNat (List.getD (Array.toList (ByteArray.data x1)) (Int.toNat (w64 ((w64 (at_2+(w64 (4*i_112))))+j_166))) 0):Nat):Int)))))) h3)
 ·exact an fol [.r [],.c false,.r []] [2,3,4,5,6,7] [2,3,6] c293 (hc2 (w64 (i_112+1)) w_167 h2)
theorem Zaj.p6_ok {x1 at_2 i_216 h_217 s_208 st r c1_ c6_ J1 J6} (h:Zaj.p6 N c1_ x1 at_2 s_208 c6_ (i_216,h_217)=some r) (hE:En Tryz.f106 g0 w0 (Zaj.rs r) st R) (hc1 : ∀at_2 h_111,c1_ (at_2,h_111)=some r→At g0 w0 (Zaj.p1.S x1 at_2 h_111 st) J1) (hc6 : ∀i_216 h_217,c6_ (i_216,h_217)=some r→At g0 w0 (Zaj.p6.S x1 at_2 i_216 h_217 s_208 st) J6):At g0 w0 (Zaj.p6.S x1 at_2 i_216 h_217 s_208 st) (XK Tryz.prog R (.c (csub Zaj.B [1,1,1,0,1,0,0,1,0,0,1,1,1,1,1,1,0,0]) :: .h J6 :: [.b 10,.b 1,.c (csub Zaj.B [1,1,1,0,1,0,0,1,1]),.h J1,.b 0,.c (csub Zaj.B [1,1,1,1])])):=by
 unfold Zaj.p6 at h
 refine iteB h (fun c376 h4=>?_) (fun c376 h5=>?_)<;>clear h
 ·obtain ⟨c377,h6⟩:=ZaO h4;clear h4
  exact and_ fol [.r [],.c true,.d {ds:=[],hv:=512,Hs:=[512]},.r []] [2,3,4,5,12,16] [2,3,12] (aN c376 c377 (oD c376) c377 (oD c376) c377 (oD c376)) (hc6 (w64 (i_216+1)) (List.set h_217 (Int.toNat i_216) (v32 ((List.getD h_217 (Int.toNat i_216) 0)+(List.getD s_208 (Int.toNat i_216) 0)))) h6)
 ·exact an fol [.r [],.c false,.r []] [2,3,4,5] [2,3] c376 (hc1 (w64 (at_2+64)) h_217 h5)
theorem Zaj.p5_ok {x1 at_2 i_198 h_111 w_193 s_208 st r c1_ c5_ J1 J5} (h:Zaj.p5 N c1_ x1 at_2 h_111 w_193 c5_ (i_198,s_208)=some r) (hE:En Tryz.f106 g0 w0 (Zaj.rs r) st R) (hc1 : ∀at_2 h_111,c1_ (at_2,h_111)=some r→At g0 w0 (Zaj.p1.S x1 at_2 h_111 st) J1) (hc5 : ∀i_198 s_208,c5_ (i_198,s_208)=some r→At g0 w0 (Zaj.p5.S x1 at_2 i_198 h_111 w_193 s_208 st) J5):At g0 w0 (Zaj.p5.S x1 at_2 i_198 h_111 w_193 s_208 st) (XK Tryz.prog R (.c (csub Zaj.B [1,1,1,0,1,0,0,1,0,0,1,1,1,1,0,1,0,0]) :: .h J5 :: [.b 8,.c (csub Zaj.B [1,1,1,0,1,0,0,1,0,0,1,1,1,1,1]),.b 1,.c (csub Zaj.B [1,1,1,0,1,0,0,1,1]),.h J1,.b 0,.c (csub Zaj.B [1,1,1,1])])):=by
 unfold Zaj.p5 at h
 refine iteB h (fun c365 h7=>?_) (fun c365 h8=>?_)<;>clear h
 ·obtain ⟨x209,c366,h9⟩:=Zaf h7;clear h7
  obtain ⟨x210,c367,h10⟩:=Zaf h9;clear h9
  obtain ⟨x211,c368,h11⟩:=Zaf h10;clear h10
  obtain ⟨x212,c369,h12⟩:=Zaf h11;clear h11
  obtain ⟨c370,h13⟩:=ZaO h12;clear h12
  obtain ⟨x213,c371,h14⟩:=Zaf h13;clear h13
  obtain ⟨x214,c372,h15⟩:=Zaf h14;clear h14
  obtain ⟨x215,c373,h16⟩:=Zaf h15;clear h15
  exact and_ fol [.r [],.c true,.d {ds:=[(4,{rs:=[.one (L.int .u32 x209)],m:=1}),(7,{rs:=[.one (L.int .u32 x210)],m:=1}),(11,{rs:=[.one (L.int .u32 x211)],m:=1}),(28,{rs:=[.one (L.int .u32 x212)],m:=1})],hv:=0,Hs:=[]},.d {ds:=[(2,{rs:=[.one (L.int .u32 x213)],m:=1}),(5,{rs:=[.one (L.int .u32 x214)],m:=1}),(9,{rs:=[.one (L.int .u32 x215)],m:=1})],hv:=0,Hs:=[]},.r [(19,{m:=3})],.r []] [2,3,4,5,6,12,13] [2,3,6,12] (aI c365 (ix 7 8 (ix 4 8 (aI (ZaI.snd c366) (ix 4 8 (aI (ZaI.snd c367) (ix 4 8 (aI (ZaI.snd c368) (ix 4 8 (ix 5 8 (ix 4 8 (ix 6 8 (aK (Zdi.snd c369) c370 (oD c365) (ix 0 8 (aI (ZaI.snd c371) (ix 0 8 (aI (ZaI.snd c372) (ix 0 8 (aI (ZaI.snd c373) (ix 0 8 (ix 1 8 (ix 0 8 (ix 2 8 (ix 1 8 (ix 2 8 (ix 0 8 (ix 1 8 (ix 2 8 (ix 3 8 (ix 4 8 (ix 5 8 (aI (leI 0 6) (ltI 6 8))))))))))))))))))))))))))))))))) (hc5 (w64 (i_198+1)) [v32 ((v32 ((v32 ((v32 ((v32 ((List.getD s_208 7 0)+(bitsOf .xor .u32 (bitsOf .xor .u32 x209 x210) x211)))+(bitsOf .or .u32 (bitsOf .and .u32 (List.getD s_208 4 0) (List.getD s_208 5 0)) (bitsOf .and .u32 (v32 (4294967295-(List.getD s_208 4 0))) (List.getD s_208 6 0)))))+x212))+(List.getD w_193 (Int.toNat i_198) 0)))+(v32 ((bitsOf .xor .u32 (bitsOf .xor .u32 x213 x214) x215)+(bitsOf .or .u32 (bitsOf .or .u32 (bitsOf .and .u32 (List.getD s_208 0 0) (List.getD s_208 1 0)) (bitsOf .and .u32 (List.getD s_208 0 0) (List.getD s_208 2 0))) (bitsOf .and .u32 (List.getD s_208 1 0) (List.getD s_208 2 0)))))),List.getD s_208 0 0,List.getD s_208 1 0,List.getD s_208 2 0,v32 ((List.getD s_208 3 0)+(v32 ((v32 ((v32 ((v32 ((List.getD s_208 7 0)+(bitsOf .xor .u32 (bitsOf .xor .u32 x209 x210) x211)))+(bitsOf .or .u32 (bitsOf .and .u32 (List.getD s_208 4 0) (List.getD s_208 5 0)) (bitsOf .and .u32 (v32 (4294967295-(List.getD s_208 4 0))) (List.getD s_208 6 0)))))+x212))+(List.getD w_193 (Int.toNat i_198) 0)))),List.getD s_208 4 0,List.getD s_208 5 0,List.getD s_208 6 0] h16)
 ·exact aq fol [.r [],.c false,.r []] [2,3,4,5,12,16] [2,3,12] c365 (At.loop N (At.loopN (fun y:Int×(List Int)=>Zaj.p6.S x1 at_2 y.1 y.2 s_208 st) (fun c J hc y h=>Zaj.p6_ok (i_216:=y.1) (h_217:=y.2) h hE hc1 (fun i_216 h_217=>hc (i_216,h_217))) N (0,h_111) h8))
theorem Zaj.p4_ok {x1 at_2 i_168 h_111 w_193 st r c1_ c4_ J1 J4} (h:Zaj.p4 N c1_ x1 at_2 h_111 c4_ (i_168,w_193)=some r) (hE:En Tryz.f106 g0 w0 (Zaj.rs r) st R) (hc1 : ∀at_2 h_111,c1_ (at_2,h_111)=some r→At g0 w0 (Zaj.p1.S x1 at_2 h_111 st) J1) (hc4 : ∀i_168 w_193,c4_ (i_168,w_193)=some r→At g0 w0 (Zaj.p4.S x1 at_2 i_168 h_111 w_193 st) J4):At g0 w0 (Zaj.p4.S x1 at_2 i_168 h_111 w_193 st) (XK Tryz.prog R (.c (csub Zaj.B [1,1,1,0,1,0,0,1,0,0,1,1,0,1,0,0]) :: .h J4 :: [.b 6,.c (csub Zaj.B [1,1,1,0,1,0,0,1,0,0,1,1,1]),.b 1,.c (csub Zaj.B [1,1,1,0,1,0,0,1,1]),.h J1,.b 0,.c (csub Zaj.B [1,1,1,1])])):=by
 unfold Zaj.p4 at h
 refine iteB h (fun c338 h17=>?_) (fun c338 h18=>?_)<;>clear h
 ·obtain ⟨c339,c340,h19⟩:=ck2 h17;clear h17
  obtain ⟨x194,c341,h20⟩:=Zaf h19;clear h19
  obtain ⟨x195,c342,h21⟩:=Zaf h20;clear h20
  obtain ⟨c343,c344,h22⟩:=ck2 h21;clear h21
  obtain ⟨x196,c345,h23⟩:=Zaf h22;clear h22
  obtain ⟨x197,c346,h24⟩:=Zaf h23;clear h23
  obtain ⟨c347,c348,c349,c350,c351,h25⟩:=ck5 h24;clear h24
  exact and_ fol [.r [],.c true,.d {ds:=[(4,{rs:=[.one (L.int .u32 x194)],m:=1}),(9,{rs:=[.one (L.int .u32 x195)],m:=1})],hv:=0,Hs:=[]},.d {ds:=[(4,{rs:=[.one (L.int .u32 x196)],m:=1}),(9,{rs:=[.one (L.int .u32 x197)],m:=1})],hv:=0,Hs:=[]},.d {ds:=[],hv:=32768,Hs:=[32768]},.r []] [2,3,4,5,6,9] [2,3,6] (aO c338 c339 c340 (ZaI.snd c341) c339 c340 (ZaI.snd c342) (aO c339 c340 (neI 8) c343 c344 (ZaI.snd c345) c343 (aO c344 (ZaI.snd c346) c343 c344 (neI 1024) c347 c348 (aK c349 c350 c351 (oD c338))))) (hc4 (w64 (i_168+1)) (List.set w_193 (Int.toNat i_168) (v32 ((v32 ((v32 ((List.getD w_193 (Int.toNat (w64 (i_168-16))) 0)+(bitsOf .xor .u32 (bitsOf .xor .u32 x194 x195) (v32 (Int.tdiv (List.getD w_193 (Int.toNat (w64 (i_168-15))) 0) 8)))))+(List.getD w_193 (Int.toNat (w64 (i_168-7))) 0)))+(bitsOf .xor .u32 (bitsOf .xor .u32 x196 x197) (v32 (Int.tdiv (List.getD w_193 (Int.toNat (w64 (i_168-2))) 0) 1024)))))) h25)
 ·exact aq fol [.r [],.c false,.r [],.r []] [2,3,4,5,6,12,13] [2,3,6,12] c338 (At.loop N (At.loopN (fun y:Int×(List Int)=>Zaj.p5.S x1 at_2 y.1 h_111 w_193 y.2 st) (fun c J hc y h=>Zaj.p5_ok (i_198:=y.1) (s_208:=y.2) h hE hc1 (fun i_198 s_208=>hc (i_198,s_208))) N (0,h_111) h18))
theorem Zaj.p2_ok {x1 at_2 i_112 h_111 w_165 st r c1_ c2_ J1 J2} (h:Zaj.p2 N c1_ x1 at_2 h_111 c2_ (i_112,w_165)=some r) (hE:En Tryz.f106 g0 w0 (Zaj.rs r) st R) (hc1 : ∀at_2 h_111,c1_ (at_2,h_111)=some r→At g0 w0 (Zaj.p1.S x1 at_2 h_111 st) J1) (hc2 : ∀i_112 w_165,c2_ (i_112,w_165)=some r→At g0 w0 (Zaj.p2.S x1 at_2 i_112 h_111 w_165 st) J2):At g0 w0 (Zaj.p2.S x1 at_2 i_112 h_111 w_165 st) (XK Tryz.prog R (.c (csub Zaj.B [1,1,1,0,1,0,0,1,0,0,1,0,1,0,0]) :: .h J2 :: [.b 2,.c (csub Zaj.B [1,1,1,0,1,0,0,1,0,0,1,1]),.b 1,.c (csub Zaj.B [1,1,1,0,1,0,0,1,1]),.h J1,.b 0,.c (csub Zaj.B [1,1,1,1])])):=by
 unfold Zaj.p2 at h
 refine iteB h (fun c287 h26=>?_) (fun c287 h27=>?_)<;>clear h
 ·exact aq fol [.r [],.c true,.r []] [2,3,4,5,6,7,8] [2,3,6] c287 (At.loop N (At.loopN (fun y:Int×(List Int)=>Zaj.p3.S x1 at_2 i_112 y.1 h_111 y.2 st) (fun c J hc y h=>Zaj.p3_ok (j_166:=y.1) (w_167:=y.2) h hE hc2 hc1 (fun j_166 w_167=>hc (j_166,w_167))) N (0,w_165) h26))
 ·exact aq fol [.r [],.c false,.r []] [2,3,4,5,6,9] [2,3,6] c287 (At.loop N (At.loopN (fun y:Int×(List Int)=>Zaj.p4.S x1 at_2 y.1 h_111 y.2 st) (fun c J hc y h=>Zaj.p4_ok (i_168:=y.1) (w_193:=y.2) h hE hc1 (fun i_168 w_193=>hc (i_168,w_193))) N (16,w_165) h27))
theorem Zaj.p7_ok {i_218 h_111 out_219 st r c7_ J7} (h:Zaj.p7 N h_111 c7_ (i_218,out_219)=some r) (hE:En Tryz.f106 g0 w0 (Zaj.rs r) st R) (hc7 : ∀i_218 out_219,c7_ (i_218,out_219)=some r→At g0 w0 (Zaj.p7.S i_218 h_111 out_219 st) J7):At g0 w0 (Zaj.p7.S i_218 h_111 out_219 st) (XK Tryz.prog R (.c (csub Zaj.B [1,1,1,1,1,0,1,0,0]) :: .h J7 :: [.b 12,.c (csub Zaj.B [1,1,1,1,1,1])])):=by
 unfold Zaj.p7 at h
 refine iteB h (fun c383 h28=>?_) (fun c383 h29=>?_)<;>clear h
 ·obtain ⟨c384,c385,c386,c387,h30⟩:=ck4 h28;clear h28
  exact an fol [.r [],.c true,.r [],.r []] [2,3,17,18] [2,3,17] (aO c383 (neI 4) c384 c385 (neI 4) c386 (neI 256) (aI c387 (oD c383))) (hc7 (w64 (i_218+1)) (List.set out_219 (Int.toNat i_218) (v8 (Int.tmod (shrOf .u32 (List.getD h_111 (Int.toNat (w64 (Int.tdiv i_218 4))) 0) (v64 (w64 (24-(w64 (8*(Int.tmod i_218 4))))))) 256))) h30)
 ·obtain rfl:=Zac h29
  exact af fol hE [.r [],.c false,.r []] [] 0 [] c383
theorem Zaj.p1_ok {x1 at_2 h_111 st r c1_ J1} (h:Zaj.p1 N x1 c1_ (at_2,h_111)=some r) (hE:En Tryz.f106 g0 w0 (Zaj.rs r) st R) (hc1 : ∀at_2 h_111,c1_ (at_2,h_111)=some r→At g0 w0 (Zaj.p1.S x1 at_2 h_111 st) J1):At g0 w0 (Zaj.p1.S x1 at_2 h_111 st) (XK Tryz.prog R (.c (csub Zaj.B [1,1,1,0,1,0,0]) :: .h J1 :: [.b 0,.c (csub Zaj.B [1,1,1,1])])):=by
 unfold Zaj.p1 at h
 refine iteB h (fun c195 h31=>?_) (fun c195 h32=>?_)<;>clear h
 ·exact aq fol [.r [],.c true,.r [],.r []] [2,3,4,5,6,7] [2,3,6] c195 (At.loop N (At.loopN (fun y:Int×(List Int)=>Zaj.p2.S x1 at_2 y.1 h_111 y.2 st) (fun c J hc y h=>Zaj.p2_ok (i_112:=y.1) (w_165:=y.2) h hE hc1 (fun i_112 w_165=>hc (i_112,w_165))) N (0,List.replicate 64 0) h31))
 ·exact aq fol [.r [],.c false,.r [],.r []] [2,3,17,18] [2,3,17] c195 (At.loop N (At.loopN (fun y:Int×(List Int)=>Zaj.p7.S y.1 h_111 y.2 st) (fun c J hc y h=>Zaj.p7_ok (i_218:=y.1) (out_219:=y.2) h hE (fun i_218 out_219=>hc (i_218,out_219))) N (0,List.replicate 32 0) h32))
theorem Zaj.snd {s_0:ByteArray} {r:(List Int)} (h:Zaj N s_0=some r):SndQ Tryz.prog 106 [.one (L.str s_0)] (Zaj.rs r):=fun st=>
 sO Zaj.B Tryz.func106 fun g0 w0 R hE=>by
  unfold Zaj at h
  obtain ⟨x1,c1,h33⟩:=Zaf h;clear h
  exact aq fol [.r [],.r [(0,{m:=3})],.r [(1,{rs:=[.one (L.str x1)],m:=1})],.r []] [2,3,4,5] [2,3] (ZaC.snd c1) (At.loop N (At.loopN (fun y:Int×(List Int)=>Zaj.p1.S x1 y.1 y.2 st) (fun c J hc y h=>Zaj.p1_ok (at_2:=y.1) (h_111:=y.2) h hE (fun at_2 h_111=>hc (at_2,h_111))) N (0,[1779033703,3144134277,1013904242,2773480762,1359893119,2600822924,528734635,1541459225]) h33))
noncomputable def Zbd.B:Code:=Tryz.f83.body.getD .skip
noncomputable def Zbd.rs (r:(List Int)):List CV:=[.agg [L.arr .u8 32 r]]
noncomputable def Zbd.p1 (N:Nat) (x1:List Int) (c1_:(ByteArray×Int)→Option (List Int)):(ByteArray×Int)→Option (List Int):=fun (b_4,i_2)=>
 if (decide (i_2<32))=true then
  chk (0≤i_2)<|
  chk (isB [[L.int .u8 (List.getD x1 (Int.toNat i_2) 0)]]=true)<|
  chk (ByteArray.size b_4+ByteArray.size (istr (List.map leafI [[L.int .u8 (List.getD x1 (Int.toNat i_2) 0)]]))≤9223372036854775807)<|
  c1_ (b_4++(istr (List.map leafI [[L.int .u8 (List.getD x1 (Int.toNat i_2) 0)]])),w64 (i_2+1))
 else
 optE (Zaj N b_4) fun x5=>
 some x5
noncomputable def Zbd (N:Nat) (s_0:ByteArray):Option (List Int):=
 optE (Zaj N s_0) fun x1=>
 loopN (Zbd.p1 N x1) N ((ByteArray.mk #[]),0)
noncomputable def Zbd.p1.S (b_4:ByteArray) (i_2:Int) (x1:List Int) (st:LL):S:=mkS 21 [(2,.one (.adr (.site 2) 0)),(3,.one (.adr (.site 3) 0)),(4,.one (.l (L.str b_4))),(5,.one (.l (L.int .i64 i_2)))] [(2,.cells [L.arr .u8 32 (List.replicate 32 0)]),(3,.cells [L.arr .u8 32 x1])] st
theorem Zbd.p1_ok {b_4 i_2 x1 st r c1_ J1} (h:Zbd.p1 N x1 c1_ (b_4,i_2)=some r) (hE:En Tryz.f83 g0 w0 (Zbd.rs r) st R) (hc1 : ∀b_4 i_2,c1_ (b_4,i_2)=some r→At g0 w0 (Zbd.p1.S b_4 i_2 x1 st) J1):At g0 w0 (Zbd.p1.S b_4 i_2 x1 st) (XK Tryz.prog R (.c (csub Zbd.B [1,1,1,0,1,0,0]) :: .h J1 :: [.b 0,.c (csub Zbd.B [1,1,1,1])])):=by
 unfold Zbd.p1 at h
 refine iteB h (fun c7 h1=>?_) (fun c7 h2=>?_)<;>clear h
 ·obtain ⟨c8,c9,c10,h3⟩:=ck3 h1;clear h1
  exact an fol [.r [],.c true,.r [],.r []] [2,3,4,5] [2,3] (aN c7 c8 (oD c7) z0 (eN (1)) c9 c10) (hc1 (b_4++(istr (List.map leafI [[L.int .u8 (List.getD x1 (Int.toNat i_2) 0)]]))) (w64 (i_2+1)) h3)
 ·obtain ⟨x5,c11,h4⟩:=Zaf h2;clear h2
  obtain rfl:=Zac h4
  exact af fol hE [.r [],.c false,.r [(1,{rs:=[.agg [L.arr .u8 32 x5]],m:=1})]] [] 0 [] (aI c7 (Zaj.snd c11))
theorem Zbd.snd {s_0:ByteArray} {r:(List Int)} (h:Zbd N s_0=some r):SndQ Tryz.prog 83 [.one (L.str s_0)] (Zbd.rs r):=fun st=>
 sO Zbd.B Tryz.func83 fun g0 w0 R hE=>by
  unfold Zbd at h
  obtain ⟨x1,c1,h5⟩:=Zaf h;clear h
  exact aq fol [.r [],.r [(1,{rs:=[.agg [L.arr .u8 32 x1]],m:=1})],.r [],.r []] [2,3,4,5] [2,3] (Zaj.snd c1) (At.loop N (At.loopN (fun y:ByteArray×Int=>Zbd.p1.S y.1 y.2 x1 st) (fun c J hc y h=>Zbd.p1_ok (b_4:=y.1) (i_2:=y.2) h hE (fun b_4 i_2=>hc (b_4,i_2))) N ((ByteArray.mk #[]),0) h5))
noncomputable def ZcP.B:Code:=Tryz.f49.body.getD .skip
noncomputable def ZcP.rs (r:(List Int)):List CV:=[.agg [L.arr .u8 32 r]]
noncomputable def ZcP (N:Nat) (h_0:Zam):Option (List Int):=
 optE (ZbX N h_0) fun x1=>
 if (!x1)=true then
  some (List.replicate 32 0)
 else
 optE (Zco N h_0) fun x2=>
 optE (Zbd N x2) fun x3=>
 some x3
theorem ZcP.snd {h_0:Zam} {r:(List Int)} (h:ZcP N h_0=some r):SndQ Tryz.prog 49 [.agg h_0.ls] (ZcP.rs r):=fun st=>
 sO ZcP.B Tryz.func49 fun g0 w0 R hE=>by
  unfold ZcP at h
  obtain ⟨x1,c1,h1⟩:=Zaf h;clear h
  refine iteB h1 (fun c2 h2=>?_) (fun c2 h3=>?_)<;>clear h1
  ·obtain rfl:=Zac h2
   exact af fol hE [.r [],.r [(1,{rs:=[.one (L.bool x1)],m:=1})],.c true,.r []] [] 0 [] (aI (ZbX.snd c1) c2)
  ·obtain ⟨x2,c3,h4⟩:=Zaf h3;clear h3
   obtain ⟨x3,c4,h5⟩:=Zaf h4;clear h4
   obtain rfl:=Zac h5
   exact af fol hE [.r [],.r [(1,{rs:=[.one (L.bool x1)],m:=1})],.c false,.r [(1,{rs:=[.one (L.str x2)],m:=1}),(2,{rs:=[.agg [L.arr .u8 32 x3]],m:=1})]] [] 0 [] (aK (ZbX.snd c1) c2 (Zco.snd c3) (Zbd.snd c4))
noncomputable def Zbz.B:Code:=Tryz.f28.body.getD .skip
noncomputable def Zbz.rs (r:Int):List CV:=[.one (L.int .i64 r)]
noncomputable def Zbz (N:Nat) (a_0:Zan) (id_1_0:List Int):Option Int:=
 optM (mfind a_0.places (L.arr .u8 32 id_1_0)) (fun j1 e=>Zdg [e] fun x2=>
  some x2)
 (
  some (-1))
theorem Zbz.snd {a_0:Zan} {id_1_0:List Int} {r:Int} (h:Zbz N a_0 id_1_0=some r):SndQ Tryz.prog 28 [.one (L.bx 87 a_0.ls),.agg [L.arr .u8 32 id_1_0]] (Zbz.rs r):=fun st=>
 sO Zbz.B Tryz.func28 fun g0 w0 R hE=>by
  unfold Zbz at h
  rcases Zge h with ⟨j1,h4,c1,h1⟩ | ⟨c1,h2⟩<;>clear h
  ·obtain ⟨x2,h5,h3⟩:=Zeg h1;clear h1
   obtain rfl:=ZeA h5
   obtain rfl:=Zac h3
   exact afd fol hE [.r [],.r [],.c false,.d {ds:=[(3,{oe:=a_0.ls}),(5,{oe:=[L.int .i64 x2]})],hv:=0,Hs:=[]},.r [],.c true,.r []] [] 0 [] (aK (eB false) (eO a_0.ls) (Zjj c1) (eB true))
  ·obtain rfl:=Zac h2
   exact afd fol hE [.r [],.r [],.c false,.d {ds:=[(3,{oe:=a_0.ls}),(5,{yes:=false})],hv:=0,Hs:=[]},.r [],.c false,.r []] [] 0 [] (aK (eB false) (eO a_0.ls) c1 (eB false))
noncomputable def ZbM.B:Code:=Tryz.f19.body.getD .skip
noncomputable def ZbM.rs (r:Bool×LL):List CV:=[.one (L.bool r.1)]
noncomputable def ZbM (N:Nat) (st:LL):Option (Bool×LL):=
 optE (Zcn N (Zal.mk 545259519 4 10 0 false [] [] (List.replicate 4 0) (List.replicate 4 0) (Zam.mk 0 (List.replicate 32 0) (List.replicate 32 0) 0 0 0)) 5 st) fun (x1,x2,st3)=>
 if (x2==0)=true then
  optE x1 fun i4=>
  getE (st3[i4]?) Zbq fun x5=>
  optE (Zaw N x5) fun x6=>
  if (x6==1)=true then
   optE (Zby N x5) fun x7=>
   if (x7==5)=true then
    optE (ZcP N (Zam.mk 0 (List.replicate 32 0) (List.replicate 32 0) 0 0 0)) fun x8=>
    optE (Zbz N x5 x8) fun x9=>
    some (x9==0,st3)
   else
   some (false,st3)
  else
  some (false,st3)
 else
 some (false,st3)
theorem ZbM.snd {st:LL} {r:Bool×LL} (h:ZbM N st=some r):Snd Tryz.prog 19 [] st (ZbM.rs r) r.2:=
 sO ZbM.B Tryz.func19 fun g0 w0 R hE=>by
  unfold ZbM at h
  obtain ⟨⟨x1,x2,st3⟩,c1,h1⟩:=Zaf h;clear h
  refine iteB h1 (fun c2 h2=>?_) (fun c2 h3=>?_)<;>clear h1
  ·obtain ⟨i4,rfl,h4⟩:=Zaf h2;clear h2
   obtain ⟨x5,c4,h5⟩:=Zbo h4;clear h4
   obtain ⟨x6,c5,h6⟩:=Zaf h5;clear h5
   refine iteB h6 (fun c6 h7=>?_) (fun c6 h8=>?_)<;>clear h6
   ·obtain ⟨x7,c7,h9⟩:=Zaf h7;clear h7
    refine iteB h9 (fun c8 h10=>?_) (fun c8 h11=>?_)<;>clear h9
    ·obtain ⟨x8,c9,h12⟩:=Zaf h10;clear h10
     obtain ⟨x9,c10,h13⟩:=Zaf h12;clear h12
     obtain rfl:=Zac h13
     exact af fol hE [.r [],.r [(1,{rs:=[.one (L.ptr (some i4)),.one (L.int .i64 x2)],st:=st3})],.r [(4,{rs:=[.one (L.int .i64 x6)],m:=10,cv:=[.one (L.bx 87 x5.ls)]}),(9,{rs:=[.one (L.int .i64 x7)],m:=10,cv:=[.one (L.bx 87 x5.ls)]}),(15,{rs:=[.agg [L.arr .u8 32 x8]],m:=1}),(16,{rs:=[.one (L.int .i64 x9)],m:=10,cv:=[.one (L.bx 87 x5.ls)]})]] [] 0 [] (aO (Zcn.snd c1) c2 c2 (bO 87 c4 (Zan.bv x5)) (Zaw.snd c5) c2 c2 (aO c6 c6 (bO 87 c4 (Zan.bv x5)) (Zby.snd c7) c6 c6 c8 (aO c8 c8 (ZcP.snd c9) c8 (bO 87 c4 (Zan.bv x5)) (Zbz.snd c10) c8 c8)))
    ·obtain rfl:=Zac h11
     exact af fol hE [.r [],.r [(1,{rs:=[.one (L.ptr (some i4)),.one (L.int .i64 x2)],st:=st3})],.r [(4,{rs:=[.one (L.int .i64 x6)],m:=10,cv:=[.one (L.bx 87 x5.ls)]}),(9,{rs:=[.one (L.int .i64 x7)],m:=10,cv:=[.one (L.bx 87 x5.ls)]}),(13,{want:=false}),(14,{want:=false}),(15,{want:=false}),(16,{want:=false}),(17,{want:=false}),(18,{yes:=false})]] [] 0 [] (aO (Zcn.snd c1) c2 c2 (bO 87 c4 (Zan.bv x5)) (Zaw.snd c5) c2 c2 (aO c6 c6 (bO 87 c4 (Zan.bv x5)) (Zby.snd c7) c6 c6 c8 (aL c8 c8 c8 c8 c8)))
   ·obtain rfl:=Zac h8
    exact af fol hE [.r [],.r [(1,{rs:=[.one (L.ptr (some i4)),.one (L.int .i64 x2)],st:=st3})],.r [(4,{rs:=[.one (L.int .i64 x6)],m:=10,cv:=[.one (L.bx 87 x5.ls)]}),(8,{want:=false}),(9,{want:=false}),(10,{want:=false}),(11,{yes:=false}),(13,{want:=false}),(14,{want:=false}),(15,{want:=false}),(16,{want:=false}),(17,{want:=false}),(18,{yes:=false})]] [] 0 [] (aO (Zcn.snd c1) c2 c2 (bO 87 c4 (Zan.bv x5)) (Zaw.snd c5) c2 c2 (aO c6 c6 c6 c6 (eB false) (eB false) (eB false) (aJ (eB false) (eB false) (eB false))))
  ·obtain rfl:=Zac h3
   exact af fol hE [.r [],.r [(1,{rs:=[.one (L.ptr x1),.one (L.int .i64 x2)],st:=st3})],.r [(3,{want:=false}),(4,{want:=false}),(5,{want:=false}),(6,{yes:=false}),(8,{want:=false}),(9,{want:=false}),(10,{want:=false}),(11,{yes:=false}),(13,{want:=false}),(14,{want:=false}),(15,{want:=false}),(16,{want:=false}),(17,{want:=false}),(18,{yes:=false})]] [] 0 [] (aO (Zcn.snd c1) c2 c2 c2 c2 (eB false) (eB false) (aO (eB false) (eB false) (eB false) (eB false) (eB false) (eB false) (eB false) (eB false)))
noncomputable def ZaZ.B:Code:=Tryz.f20.body.getD .skip
noncomputable def ZaZ.rs (r:Bool):List CV:=[.one (L.bool r)]
noncomputable def ZaZ.p1 (N:Nat) (list_1:LL) (p_0:Zal) (c1_:Int→Option Bool):Int→Option Bool:=fun v1=>
 if (decide (v1<(len list_1)))=true then
  chk (0≤v1)<|
  getE (list_1[Int.toNat v1]?) Zce fun x2=>
  if (decide (x2.Now<0))=true then
   some true
  else
  c1_ (w64 (v1+1))
 else
 if (decide ((len p_0.Gates)>20))=true then
  some true
 else
 if (decide ((len p_0.Checks)>20))=true then
  some true
 else
 some (decide ((len list_1)>40))
noncomputable def ZaZ (N:Nat) (p_0:Zal) (list_1:LL):Option Bool:=
 loopN (ZaZ.p1 N list_1 p_0) N 0
noncomputable def ZaZ.p1.S (list_1:LL) (v1:Int) (p_0:Zal) (st:LL):S:=mkS 32 [(1,.one (.l (L.sl 69 list_1))),(2,.one (.adr (.site 2) 0)),(7,.one (.l (L.sl 69 list_1))),(8,.one (.l (L.int .i64 (len list_1)))),(9,.one (.l (L.int .i64 v1)))] [(2,.cells p_0.ls)] st
theorem ZaZ.p1_ok {list_1 v1 p_0 st r c1_ J1} (h:ZaZ.p1 N list_1 p_0 c1_ v1=some r) (hE:En Tryz.f20 g0 w0 (ZaZ.rs r) st R) (hc1 : ∀v1,c1_ v1=some r→At g0 w0 (ZaZ.p1.S list_1 v1 p_0 st) J1):At g0 w0 (ZaZ.p1.S list_1 v1 p_0 st) (XK Tryz.prog R (.c (csub ZaZ.B [1,0,1,0,0]) :: .h J1 :: [.b 0,.c (csub ZaZ.B [1,1])])):=by
 unfold ZaZ.p1 at h
 refine iteB h (fun c1 h1=>?_) (fun c1 h2=>?_)<;>clear h
 ·obtain ⟨c2,h3⟩:=ZaO h1;clear h1
  obtain ⟨x2,c3,h4⟩:=ZcL h3;clear h3
  refine iteB h4 (fun c4 h5=>?_) (fun c4 h6=>?_)<;>clear h4
  ·obtain rfl:=Zac h5
   exact af fol hE [.r [],.c true,.r [(1,{oe:=x2.ls})],.r [],.c true,.r []] [] 0 [] (aL c1 c2 (oD c1) c3 c4)
  ·exact an fol [.r [],.c true,.r [(1,{oe:=x2.ls})],.r [],.c false,.r []] [1,2,7,8,9] [2] (aL c1 c2 (oD c1) c3 c4) (hc1 (w64 (v1+1)) h6)
 ·refine iteB h2 (fun c5 h7=>?_) (fun c5 h8=>?_)<;>clear h2
  ·obtain rfl:=Zac h7
   exact af fol hE [.r [],.c false,.r [(5,{want:=false}),(6,{want:=false}),(7,{want:=false}),(8,{want:=false}),(11,{want:=false}),(12,{want:=false}),(13,{want:=false})]] [] 0 [] (aO c1 c5 c5 c5 c5 c5 (eB true) (aJ (eB true) (eB true) (eB true)))
  ·refine iteB h8 (fun c6 h9=>?_) (fun c6 h10=>?_)<;>clear h8
   ·obtain rfl:=Zac h9
    exact af fol hE [.r [],.c false,.r [(9,{yes:=false}),(11,{want:=false}),(12,{want:=false}),(13,{want:=false})]] [] 0 [] (aO c1 c5 c5 c5 c5 c5 c6 (aJ c6 c6 c6))
   ·obtain rfl:=Zac h10
    exact af fol hE [.r [],.c false,.r [(9,{yes:=false}),(14,{yes:=false})]] [] 0 [] (aO c1 c5 c5 c5 c5 c5 c6 (aJ c6 c6 c6))
theorem ZaZ.snd {p_0:Zal} {list_1:LL} {r:Bool} (h:ZaZ N p_0 list_1=some r):SndQ Tryz.prog 20 [.agg p_0.ls,.one (L.sl 69 list_1)] (ZaZ.rs r):=fun st=>
 sO ZaZ.B Tryz.func20 fun g0 w0 R hE=>by
  unfold ZaZ at h
  exact aq fol [.r [],.r []] [1,2,7,8,9] [2] trivial (At.loop N (At.loopN (fun y:Int=>ZaZ.p1.S list_1 y p_0 st) (fun c J hc y h=>ZaZ.p1_ok h hE (fun v1=>hc v1)) N 0 h))
noncomputable def Zah.B:Code:=Tryz.f125.body.getD .skip
noncomputable def Zah.rs (r:(List Int)):List CV:=[.agg [L.arr .u64 4 r]]
noncomputable def Zah.p4 (N:Nat) (c3_:(Int×(List Int))→Option (List Int)) (n_13 i_19:Int) (a_18 out_22:List Int):Option (List Int):=
 c3_ (w64 (i_19+1),out_22)
noncomputable def Zah.p3 (N:Nat) (n_13:Int) (a_18:List Int) (c3_:(Int×(List Int))→Option (List Int)):(Int×(List Int))→Option (List Int):=fun (i_19,out_21)=>
 if (decide (i_19<4))=true then
  if (decide (n_13>0))=true then
   chk (0≤i_19)<|
   chk (0≤(v64 (n_13)))<|
   if (decide (i_19>0))=true then
    chk (0≤(w64 (i_19-1)))<|
    chk ((w64 (i_19-1))<4)<|
    chk (0≤(v64 (w64 (64-n_13))))<|
    Zah.p4 N c3_ n_13 i_19 a_18 (List.set (List.set out_21 (Int.toNat i_19) (shlOf .u64 (List.getD a_18 (Int.toNat i_19) 0) (v64 (n_13)))) (Int.toNat i_19) (v64 ((List.getD (List.set out_21 (Int.toNat i_19) (shlOf .u64 (List.getD a_18 (Int.toNat i_19) 0) (v64 (n_13)))) (Int.toNat i_19) 0)+(shrOf .u64 (List.getD a_18 (Int.toNat (w64 (i_19-1))) 0) (v64 (w64 (64-n_13)))))))
   else
   Zah.p4 N c3_ n_13 i_19 a_18 (List.set out_21 (Int.toNat i_19) (shlOf .u64 (List.getD a_18 (Int.toNat i_19) 0) (v64 (n_13))))
  else
  chk (0≤i_19)<|
  chk (0≤(v64 (w64 (0-n_13))))<|
  if (decide (i_19<3))=true then
   chk (0≤(w64 (i_19+1)))<|
   chk ((w64 (i_19+1))<4)<|
   chk (0≤(v64 (w64 (64+n_13))))<|
   Zah.p4 N c3_ n_13 i_19 a_18 (List.set (List.set out_21 (Int.toNat i_19) (shrOf .u64 (List.getD a_18 (Int.toNat i_19) 0) (v64 (w64 (0-n_13))))) (Int.toNat i_19) (v64 ((List.getD (List.set out_21 (Int.toNat i_19) (shrOf .u64 (List.getD a_18 (Int.toNat i_19) 0) (v64 (w64 (0-n_13))))) (Int.toNat i_19) 0)+(shlOf .u64 (List.getD a_18 (Int.toNat (w64 (i_19+1))) 0) (v64 (w64 (64+n_13)))))))
  else
  Zah.p4 N c3_ n_13 i_19 a_18 (List.set out_21 (Int.toNat i_19) (shrOf .u64 (List.getD a_18 (Int.toNat i_19) 0) (v64 (w64 (0-n_13)))))
 else
 some out_21
noncomputable def Zah.p2 (N:Nat) (c2_:(Int×(List Int))→Option (List Int)):(Int×(List Int))→Option (List Int):=fun (n_13,a_18)=>
 if (decide (n_13≤(-64)))=true then
  c2_ (w64 (n_13+64),[List.getD a_18 1 0,List.getD a_18 2 0,List.getD a_18 3 0,0])
 else
 if (n_13==0)=true then
  some a_18
 else
 loopN (Zah.p3 N n_13 a_18) N (0,List.replicate 4 0)
noncomputable def Zah.p1 (N:Nat) (c1_:(Int×(List Int))→Option (List Int)):(Int×(List Int))→Option (List Int):=fun (n_1,a_12)=>
 if (decide (n_1≥64))=true then
  c1_ (w64 (n_1-64),[0,List.getD a_12 0 0,List.getD a_12 1 0,List.getD a_12 2 0])
 else
 loopN (Zah.p2 N) N (n_1,a_12)
noncomputable def Zah (N:Nat) (a_0_0:List Int) (n_1:Int):Option (List Int):=
 if (decide (n_1≤(-256)))=true then
  some (List.replicate 4 0)
 else
 if (decide (n_1≥256))=true then
  some (List.replicate 4 0)
 else
 loopN (Zah.p1 N) N (n_1,a_0_0)
noncomputable def Zah.p4.S (n_13 i_19:Int) (a_18 out_22:List Int) (st:LL):S:=mkS 96 [(1,.one (.l (L.int .i64 n_13))),(2,.one (.adr (.site 2) 0)),(4,.one (.adr (.site 4) 0)),(5,.one (.adr (.site 5) 0)),(6,.one (.l (L.int .i64 i_19)))] [(2,.cells [L.arr .u64 4 a_18]),(4,.cells [L.arr .u64 4 (List.replicate 4 0)]),(5,.cells [L.arr .u64 4 out_22])] st
noncomputable def Zah.p3.S (n_13 i_19:Int) (a_18 out_21:List Int) (st:LL):S:=mkS 96 [(1,.one (.l (L.int .i64 n_13))),(2,.one (.adr (.site 2) 0)),(4,.one (.adr (.site 4) 0)),(5,.one (.adr (.site 5) 0)),(6,.one (.l (L.int .i64 i_19)))] [(2,.cells [L.arr .u64 4 a_18]),(4,.cells [L.arr .u64 4 (List.replicate 4 0)]),(5,.cells [L.arr .u64 4 out_21])] st
noncomputable def Zah.p2.S (n_13:Int) (a_18:List Int) (st:LL):S:=mkS 96 [(1,.one (.l (L.int .i64 n_13))),(2,.one (.adr (.site 2) 0)),(4,.one (.adr (.site 4) 0)),(5,.one (.adr (.site 5) 0))] [(2,.cells [L.arr .u64 4 a_18]),(4,.cells [L.arr .u64 4 (List.replicate 4 0)]),(5,.cells [L.arr .u64 4 (List.replicate 4 0)])] st
noncomputable def Zah.p1.S (n_1:Int) (a_12:List Int) (st:LL):S:=mkS 96 [(1,.one (.l (L.int .i64 n_1))),(2,.one (.adr (.site 2) 0)),(4,.one (.adr (.site 4) 0)),(5,.one (.adr (.site 5) 0))] [(2,.cells [L.arr .u64 4 a_12]),(4,.cells [L.arr .u64 4 (List.replicate 4 0)]),(5,.cells [L.arr .u64 4 (List.replicate 4 0)])] st
theorem Zah.p4_ok {n_13 i_19 a_18 out_22 st r c3_ J3} (h:Zah.p4 N c3_ n_13 i_19 a_18 out_22=some r) (hE:En Tryz.f125 g0 w0 (Zah.rs r) st R) (hc3 : ∀i_19 out_21,c3_ (i_19,out_21)=some r→At g0 w0 (Zah.p3.S n_13 i_19 a_18 out_21 st) J3):At g0 w0 (Zah.p4.S n_13 i_19 a_18 out_22 st) (XK Tryz.prog R [.c (csub Zah.B [1,1,1,1,1,1,0,1,0,0,1,1]),.h J3,.b 4,.c (csub Zah.B [1,1,1,1,1,1,1])]):=by
 unfold Zah.p4 at h
 exact an fol [.r []] [1,2,4,5,6] [2,4,5] trivial (hc3 (w64 (i_19+1)) out_22 h)
theorem Zah.p3_ok {n_13 i_19 a_18 out_21 st r c3_ J3} (h:Zah.p3 N n_13 a_18 c3_ (i_19,out_21)=some r) (hE:En Tryz.f125 g0 w0 (Zah.rs r) st R) (hc3 : ∀i_19 out_21,c3_ (i_19,out_21)=some r→At g0 w0 (Zah.p3.S n_13 i_19 a_18 out_21 st) J3):At g0 w0 (Zah.p3.S n_13 i_19 a_18 out_21 st) (XK Tryz.prog R (.c (csub Zah.B [1,1,1,1,1,1,0,1,0,0]) :: .h J3 :: [.b 4,.c (csub Zah.B [1,1,1,1,1,1,1])])):=by
 unfold Zah.p3 at h
 refine iteB h (fun c111 h1=>?_) (fun c111 h2=>?_)<;>clear h
 ·refine iteB h1 (fun c112 h3=>?_) (fun c112 h4=>?_)<;>clear h1
  ·obtain ⟨c113,c114,h5⟩:=ck2 h3;clear h3
   refine iteB h5 (fun c115 h6=>?_) (fun c115 h7=>?_)<;>clear h5
   ·obtain ⟨c116,c117,c118,h8⟩:=ck3 h6;clear h6
    exact aqd fol [.r [],.c true,.r [],.c true,.r [],.r [],.c true,.d {ds:=[],hv:=16384,Hs:=[16384]},.s 4] [1,2,4,5,6] [2,4,5] (aO c111 c112 c113 (oD c111) c114 c113 (oD c111) (aO c115 c113 (oD c111) c116 c117 c118 c113 (oD c111))) (Zah.p4_ok h8 hE hc3)
   ·exact aq fol [.r [],.c true,.r [],.c true,.r [],.r [],.c false,.s 4] [1,2,4,5,6] [2,4,5] (aO c111 c112 c113 (oD c111) c114 c113 (oD c111) c115) (Zah.p4_ok h7 hE hc3)
  ·obtain ⟨c119,c120,h9⟩:=ck2 h4;clear h4
   refine iteB h9 (fun c121 h10=>?_) (fun c121 h11=>?_)<;>clear h9
   ·obtain ⟨c122,c123,c124,h12⟩:=ck3 h10;clear h10
    exact aqd fol [.r [],.c true,.r [],.c false,.r [],.r [],.c true,.d {ds:=[],hv:=16384,Hs:=[16384]},.s 4] [1,2,4,5,6] [2,4,5] (aO c111 c112 c119 (oD c111) c120 c119 (oD c111) (aO c121 c119 (oD c111) c122 c123 c124 c119 (oD c111))) (Zah.p4_ok h12 hE hc3)
   ·exact aq fol [.r [],.c true,.r [],.c false,.r [],.r [],.c false,.s 4] [1,2,4,5,6] [2,4,5] (aO c111 c112 c119 (oD c111) c120 c119 (oD c111) c121) (Zah.p4_ok h11 hE hc3)
 ·obtain rfl:=Zac h2
  exact af fol hE [.r [],.c false,.r []] [] 0 [] c111
theorem Zah.p2_ok {n_13 a_18 st r c2_ J2} (h:Zah.p2 N c2_ (n_13,a_18)=some r) (hE:En Tryz.f125 g0 w0 (Zah.rs r) st R) (hc2 : ∀n_13 a_18,c2_ (n_13,a_18)=some r→At g0 w0 (Zah.p2.S n_13 a_18 st) J2):At g0 w0 (Zah.p2.S n_13 a_18 st) (XK Tryz.prog R (.c (csub Zah.B [1,1,1,1,0,0,0]) :: .h J2 :: [.b 2,.c (csub Zah.B [1,1,1,1,1])])):=by
 unfold Zah.p2 at h
 refine iteB h (fun c95 h13=>?_) (fun c95 h14=>?_)<;>clear h
 ·exact an fol [.r [],.c true,.r [(6,{m:=3})],.r []] [1,2,4,5] [2,4,5] (aI c95 (ix 1 4 (ix 2 4 (aI (leI 0 3) (ltI 3 4))))) (hc2 (w64 (n_13+64)) [List.getD a_18 1 0,List.getD a_18 2 0,List.getD a_18 3 0,0] h13)
 ·refine iteB h14 (fun c96 h15=>?_) (fun c96 h16=>?_)<;>clear h14
  ·obtain rfl:=Zac h15
   exact af fol hE [.r [],.c false,.r [],.c true,.r []] [] 0 [] (aI c95 c96)
  ·exact aq fol [.r [],.c false,.r [],.c false,.r []] [1,2,4,5,6] [2,4,5] (aI c95 c96) (At.loop N (At.loopN (fun y:Int×(List Int)=>Zah.p3.S n_13 y.1 a_18 y.2 st) (fun c J hc y h=>Zah.p3_ok (i_19:=y.1) (out_21:=y.2) h hE (fun i_19 out_21=>hc (i_19,out_21))) N (0,List.replicate 4 0) h16))
theorem Zah.p1_ok {n_1 a_12 st r c1_ J1} (h:Zah.p1 N c1_ (n_1,a_12)=some r) (hE:En Tryz.f125 g0 w0 (Zah.rs r) st R) (hc1 : ∀n_1 a_12,c1_ (n_1,a_12)=some r→At g0 w0 (Zah.p1.S n_1 a_12 st) J1):At g0 w0 (Zah.p1.S n_1 a_12 st) (XK Tryz.prog R (.c (csub Zah.B [1,1,1,0,0,0]) :: .h J1 :: [.b 0,.c (csub Zah.B [1,1,1,1])])):=by
 unfold Zah.p1 at h
 refine iteB h (fun c64 h17=>?_) (fun c64 h18=>?_)<;>clear h
 ·exact an fol [.r [],.c true,.r [(6,{m:=3})],.r []] [1,2,4,5] [2,4,5] (aI c64 (ix 0 4 (ix 1 4 (aI (leI 0 2) (ltI 2 4))))) (hc1 (w64 (n_1-64)) [0,List.getD a_12 0 0,List.getD a_12 1 0,List.getD a_12 2 0] h17)
 ·exact aq fol [.r [],.c false] [1,2,4,5] [2,4,5] c64 (At.loop N (At.loopN (fun y:Int×(List Int)=>Zah.p2.S y.1 y.2 st) (fun c J hc y h=>Zah.p2_ok (n_13:=y.1) (a_18:=y.2) h hE (fun n_13 a_18=>hc (n_13,a_18))) N (n_1,a_12) h18))
theorem Zah.snd {a_0_0:List Int} {n_1:Int} {r:(List Int)} (h:Zah N a_0_0 n_1=some r):SndQ Tryz.prog 125 [.agg [L.arr .u64 4 a_0_0],.one (L.int .i64 n_1)] (Zah.rs r):=fun st=>
 sO Zah.B Tryz.func125 fun g0 w0 R hE=>by
  unfold Zah at h
  refine iteB h (fun c1 h19=>?_) (fun c1 h20=>?_)<;>clear h
  ·obtain rfl:=Zac h19
   exact af fol hE [.r [],.r [],.r [(3,{want:=false}),(4,{want:=false})],.c true,.r []] [] 0 [] (aK c1 c1 c1 (eB true))
  ·refine iteB h20 (fun c2 h21=>?_) (fun c2 h22=>?_)<;>clear h20
   ·obtain rfl:=Zac h21
    exact af fol hE [.r [],.r [],.r [(5,{yes:=false})],.c true,.r []] [] 0 [] (aK c1 c1 c1 c2)
   ·exact aq fol [.r [],.r [],.r [(5,{yes:=false})],.c false] [1,2,4,5] [2,4,5] (aK c1 c1 c1 c2) (At.loop N (At.loopN (fun y:Int×(List Int)=>Zah.p1.S y.1 y.2 st) (fun c J hc y h=>Zah.p1_ok (n_1:=y.1) (a_12:=y.2) h hE (fun n_1 a_12=>hc (n_1,a_12))) N (n_1,a_0_0) h22))
noncomputable def Zat.B:Code:=Tryz.f100.body.getD .skip
noncomputable def Zat.rs (r:(List Int)×Bool×Bool):List CV:=[.agg [L.arr .u64 4 r.1],.one (L.bool r.2.1),.one (L.bool r.2.2)]
noncomputable def Zat.p1 (N:Nat) (bits_0:Int) (over_2:Bool) (x1:List Int):Option ((List Int)×Bool×Bool):=
 if (decide ((Int.tmod bits_0 8388608)>0))=true then
  some (x1,(Int.tmod (w64 (Int.tdiv bits_0 8388608)) 2)==1,over_2)
 else
 some (x1,false,over_2)
noncomputable def Zat (N:Nat) (bits_0:Int):Option ((List Int)×Bool×Bool):=
 if (decide (bits_0<0))=true then
  some (List.replicate 4 0,false,false)
 else
 if (decide (bits_0>4294967295))=true then
  some (List.replicate 4 0,false,false)
 else
 optE (Zah N [v64 (Int.tmod bits_0 8388608),0,0,0] (w64 (8*(w64 ((w64 (Int.tdiv bits_0 16777216))-3))))) fun x1=>
 if (decide ((Int.tmod bits_0 8388608)>0))=true then
  if (decide ((w64 (Int.tdiv bits_0 16777216))>34))=true then
   Zat.p1 N bits_0 true x1
  else
  if (decide ((Int.tmod bits_0 8388608)>255))=true then
   if (decide ((w64 (Int.tdiv bits_0 16777216))>33))=true then
    Zat.p1 N bits_0 true x1
   else
   if (decide ((Int.tmod bits_0 8388608)>65535))=true then
    Zat.p1 N bits_0 (decide ((w64 (Int.tdiv bits_0 16777216))>32)) x1
   else
   Zat.p1 N bits_0 false x1
  else
  if (decide ((Int.tmod bits_0 8388608)>65535))=true then
   Zat.p1 N bits_0 (decide ((w64 (Int.tdiv bits_0 16777216))>32)) x1
  else
  Zat.p1 N bits_0 false x1
 else
 if (decide ((Int.tmod bits_0 8388608)>255))=true then
  if (decide ((w64 (Int.tdiv bits_0 16777216))>33))=true then
   Zat.p1 N bits_0 true x1
  else
  if (decide ((Int.tmod bits_0 8388608)>65535))=true then
   Zat.p1 N bits_0 (decide ((w64 (Int.tdiv bits_0 16777216))>32)) x1
  else
  Zat.p1 N bits_0 false x1
 else
 if (decide ((Int.tmod bits_0 8388608)>65535))=true then
  Zat.p1 N bits_0 (decide ((w64 (Int.tdiv bits_0 16777216))>32)) x1
 else
 Zat.p1 N bits_0 false x1
noncomputable def Zat.p1.S (bits_0:Int) (over_2:Bool) (x1:List Int) (st:LL):S:=mkS 61 [(2,.one (.adr (.site 2) 0)),(6,.one (.l (L.int .i64 (Int.tmod bits_0 8388608)))),(7,.one (.l (L.bool ((Int.tmod (w64 (Int.tdiv bits_0 8388608)) 2)==1)))),(8,.one (.adr (.site 8) 0)),(9,.one (.l (L.bool over_2)))] [(2,.cells [L.arr .u64 4 (List.replicate 4 0)]),(8,.cells [L.arr .u64 4 x1])] st
theorem Zat.p1_ok {bits_0 over_2 x1 st r} (h:Zat.p1 N bits_0 over_2 x1=some r) (hE:En Tryz.f100 g0 w0 (Zat.rs r) st R):At g0 w0 (Zat.p1.S bits_0 over_2 x1 st) (XK Tryz.prog R [.c (csub Zat.B [1,1,1,1,1,1,1])]):=by
 unfold Zat.p1 at h
 refine iteB h (fun c14 h1=>?_) (fun c14 h2=>?_)<;>clear h
 ·obtain rfl:=Zac h1
  exact af fol hE [.r []] [] 0 [] (aI c14 c14)
 ·obtain rfl:=Zac h2
  exact af fol hE [.r [(4,{want:=false}),(5,{yes:=false})]] [] 0 [] (aI c14 c14)
theorem Zat.snd {bits_0:Int} {r:(List Int)×Bool×Bool} (h:Zat N bits_0=some r):SndQ Tryz.prog 100 [.one (L.int .i64 bits_0)] (Zat.rs r):=fun st=>
 sO Zat.B Tryz.func100 fun g0 w0 R hE=>by
  unfold Zat at h
  refine iteB h (fun c1 h3=>?_) (fun c1 h4=>?_)<;>clear h
  ·obtain rfl:=Zac h3
   exact af fol hE [.r [],.r [(3,{want:=false}),(4,{want:=false})],.c true,.r []] [] 0 [] (aK c1 c1 c1 (eB true))
  ·refine iteB h4 (fun c2 h5=>?_) (fun c2 h6=>?_)<;>clear h4
   ·obtain rfl:=Zac h5
    exact af fol hE [.r [],.r [(5,{yes:=false})],.c true,.r []] [] 0 [] (aK c1 c1 c1 c2)
   ·obtain ⟨x1,c3,h7⟩:=Zaf h6;clear h6
    refine iteB h7 (fun c4 h8=>?_) (fun c4 h9=>?_)<;>clear h7
    ·refine iteB h8 (fun c5 h10=>?_) (fun c5 h11=>?_)<;>clear h8
     ·exact aq fol [.r [],.r [(5,{yes:=false})],.c false,.r [],.r [],.r [],.r [(2,{m:=3}),(6,{rs:=[.agg [L.arr .u64 4 x1]],m:=1})],.r [(7,{want:=false}),(8,{want:=false}),(9,{want:=false}),(12,{want:=false}),(15,{want:=false}),(16,{want:=false}),(17,{want:=false}),(20,{want:=false})],.s 1] [2,6,7,8,9] [2,8] (aO c1 c1 c1 c2 (neI 16777216) (neI 8388608) (neI 8388608) (aO (neI 2) (Zah.snd c3) c4 c4 c4 c5 c5 (aO c5 c5 c5 (eB true) (eB true) (eB true) (eB true) (eB true)))) (Zat.p1_ok h10 hE)
     ·refine iteB h11 (fun c6 h12=>?_) (fun c6 h13=>?_)<;>clear h11
      ·refine iteB h12 (fun c7 h14=>?_) (fun c7 h15=>?_)<;>clear h12
       ·exact aq fol [.r [],.r [(5,{yes:=false})],.c false,.r [],.r [],.r [],.r [(2,{m:=3}),(6,{rs:=[.agg [L.arr .u64 4 x1]],m:=1})],.r [(13,{yes:=false}),(15,{want:=false}),(16,{want:=false}),(17,{want:=false}),(20,{want:=false})],.s 1] [2,6,7,8,9] [2,8] (aO c1 c1 c1 c2 (neI 16777216) (neI 8388608) (neI 8388608) (aO (neI 2) (Zah.snd c3) c4 c4 c4 c5 c5 (aO c5 c6 c6 c5 c6 c5 c7 (aK c7 c7 c7 c7)))) (Zat.p1_ok h14 hE)
       ·refine iteB h15 (fun c8 h16=>?_) (fun c8 h17=>?_)<;>clear h15
        ·exact aq fol [.r [],.r [(5,{yes:=false})],.c false,.r [],.r [],.r [],.r [(2,{m:=3}),(6,{rs:=[.agg [L.arr .u64 4 x1]],m:=1})],.r [(13,{yes:=false}),(21,{yes:=false})],.s 1] [2,6,7,8,9] [2,8] (aO c1 c1 c1 c2 (neI 16777216) (neI 8388608) (neI 8388608) (aO (neI 2) (Zah.snd c3) c4 c4 c4 c5 c5 (aO c5 c6 c6 c5 c6 c5 c7 (aN c7 c7 c8 c8 c7 c8 c7)))) (Zat.p1_ok h16 hE)
        ·exact aq fol [.r [],.r [(5,{yes:=false})],.c false,.r [],.r [],.r [],.r [(2,{m:=3}),(6,{rs:=[.agg [L.arr .u64 4 x1]],m:=1})],.r [(13,{yes:=false}),(18,{want:=false}),(19,{want:=false}),(20,{yes:=false}),(21,{yes:=false})],.s 1] [2,6,7,8,9] [2,8] (aO c1 c1 c1 c2 (neI 16777216) (neI 8388608) (neI 8388608) (aO (neI 2) (Zah.snd c3) c4 c4 c4 c5 c5 (aO c5 c6 c6 c5 c6 c5 c7 (aN c7 c7 c8 c8 c7 c8 c7)))) (Zat.p1_ok h17 hE)
      ·refine iteB h13 (fun c9 h18=>?_) (fun c9 h19=>?_)<;>clear h13
       ·exact aq fol [.r [],.r [(5,{yes:=false})],.c false,.r [],.r [],.r [],.r [(2,{m:=3}),(6,{rs:=[.agg [L.arr .u64 4 x1]],m:=1})],.r [(10,{want:=false}),(11,{want:=false}),(12,{yes:=false}),(13,{yes:=false}),(21,{yes:=false})],.s 1] [2,6,7,8,9] [2,8] (aO c1 c1 c1 c2 (neI 16777216) (neI 8388608) (neI 8388608) (aO (neI 2) (Zah.snd c3) c4 c4 c4 c5 c5 (aO c5 c6 c6 c5 c6 c5 (eB false) (aN (eB false) (eB false) c9 c9 (eB false) c9 (eB false))))) (Zat.p1_ok h18 hE)
       ·exact aq fol [.r [],.r [(5,{yes:=false})],.c false,.r [],.r [],.r [],.r [(2,{m:=3}),(6,{rs:=[.agg [L.arr .u64 4 x1]],m:=1})],.r [(10,{want:=false}),(11,{want:=false}),(12,{yes:=false}),(13,{yes:=false}),(18,{want:=false}),(19,{want:=false}),(20,{yes:=false}),(21,{yes:=false})],.s 1] [2,6,7,8,9] [2,8] (aO c1 c1 c1 c2 (neI 16777216) (neI 8388608) (neI 8388608) (aO (neI 2) (Zah.snd c3) c4 c4 c4 c5 c5 (aO c5 c6 c6 c5 c6 c5 (eB false) (aN (eB false) (eB false) c9 c9 (eB false) c9 (eB false))))) (Zat.p1_ok h19 hE)
    ·refine iteB h9 (fun c10 h20=>?_) (fun c10 h21=>?_)<;>clear h9
     ·refine iteB h20 (fun c11 h22=>?_) (fun c11 h23=>?_)<;>clear h20
      ·exact aq fol [.r [],.r [(5,{yes:=false})],.c false,.r [],.r [],.r [],.r [(2,{m:=3}),(6,{rs:=[.agg [L.arr .u64 4 x1]],m:=1})],.r [(3,{want:=false}),(4,{want:=false}),(5,{yes:=false}),(13,{yes:=false}),(15,{want:=false}),(16,{want:=false}),(17,{want:=false}),(20,{want:=false})],.s 1] [2,6,7,8,9] [2,8] (aO c1 c1 c1 c2 (neI 16777216) (neI 8388608) (neI 8388608) (aO (neI 2) (Zah.snd c3) c4 c4 c4 (eB false) (eB false) (aO (eB false) c10 c10 (eB false) c10 (eB false) c11 (aK c11 c11 c11 c11)))) (Zat.p1_ok h22 hE)
      ·refine iteB h23 (fun c12 h24=>?_) (fun c12 h25=>?_)<;>clear h23
       ·exact aq fol [.r [],.r [(5,{yes:=false})],.c false,.r [],.r [],.r [],.r [(2,{m:=3}),(6,{rs:=[.agg [L.arr .u64 4 x1]],m:=1})],.r [(3,{want:=false}),(4,{want:=false}),(5,{yes:=false}),(13,{yes:=false}),(21,{yes:=false})],.s 1] [2,6,7,8,9] [2,8] (aO c1 c1 c1 c2 (neI 16777216) (neI 8388608) (neI 8388608) (aO (neI 2) (Zah.snd c3) c4 c4 c4 (eB false) (eB false) (aO (eB false) c10 c10 (eB false) c10 (eB false) c11 (aN c11 c11 c12 c12 c11 c12 c11)))) (Zat.p1_ok h24 hE)
       ·exact aq fol [.r [],.r [(5,{yes:=false})],.c false,.r [],.r [],.r [],.r [(2,{m:=3}),(6,{rs:=[.agg [L.arr .u64 4 x1]],m:=1})],.r [(3,{want:=false}),(4,{want:=false}),(5,{yes:=false}),(13,{yes:=false}),(18,{want:=false}),(19,{want:=false}),(20,{yes:=false}),(21,{yes:=false})],.s 1] [2,6,7,8,9] [2,8] (aO c1 c1 c1 c2 (neI 16777216) (neI 8388608) (neI 8388608) (aO (neI 2) (Zah.snd c3) c4 c4 c4 (eB false) (eB false) (aO (eB false) c10 c10 (eB false) c10 (eB false) c11 (aN c11 c11 c12 c12 c11 c12 c11)))) (Zat.p1_ok h25 hE)
     ·refine iteB h21 (fun c13 h26=>?_) (fun c13 h27=>?_)<;>clear h21
      ·exact aq fol [.r [],.r [(5,{yes:=false})],.c false,.r [],.r [],.r [],.r [(2,{m:=3}),(6,{rs:=[.agg [L.arr .u64 4 x1]],m:=1})],.r [(3,{want:=false}),(4,{want:=false}),(5,{yes:=false}),(10,{want:=false}),(11,{want:=false}),(12,{yes:=false}),(13,{yes:=false}),(21,{yes:=false})],.s 1] [2,6,7,8,9] [2,8] (aO c1 c1 c1 c2 (neI 16777216) (neI 8388608) (neI 8388608) (aO (neI 2) (Zah.snd c3) c4 c4 c4 (eB false) (eB false) (aO (eB false) c10 c10 (eB false) c10 (eB false) (eB false) (aN (eB false) (eB false) c13 c13 (eB false) c13 (eB false))))) (Zat.p1_ok h26 hE)
      ·exact aq fol [.r [],.r [(5,{yes:=false})],.c false,.r [],.r [],.r [],.r [(2,{m:=3}),(6,{rs:=[.agg [L.arr .u64 4 x1]],m:=1})],.r [(3,{want:=false}),(4,{want:=false}),(5,{yes:=false}),(10,{want:=false}),(11,{want:=false}),(12,{yes:=false}),(13,{yes:=false}),(18,{want:=false}),(19,{want:=false}),(20,{yes:=false}),(21,{yes:=false})],.s 1] [2,6,7,8,9] [2,8] (aO c1 c1 c1 c2 (neI 16777216) (neI 8388608) (neI 8388608) (aO (neI 2) (Zah.snd c3) c4 c4 c4 (eB false) (eB false) (aO (eB false) c10 c10 (eB false) c10 (eB false) (eB false) (aN (eB false) (eB false) c13 c13 (eB false) c13 (eB false))))) (Zat.p1_ok h27 hE)
noncomputable def Zca.B:Code:=Tryz.f124.body.getD .skip
noncomputable def Zca.rs (r:Int):List CV:=[.one (L.int .i64 r)]
noncomputable def Zca (N:Nat) (a_0_0:List Int) (i_1:Int):Option Int:=
 if (decide (i_1<0))=true then
  some 0
 else
 if (decide (i_1>255))=true then
  some 0
 else
 chk (0≤(w64 (Int.tdiv i_1 64)))<|
 chk ((w64 (Int.tdiv i_1 64))<4)<|
 chk (0≤(v64 (Int.tmod i_1 64)))<|
 some (w64 (Int.tmod (shrOf .u64 (List.getD a_0_0 (Int.toNat (w64 (Int.tdiv i_1 64))) 0) (v64 (Int.tmod i_1 64))) 2))
theorem Zca.snd {a_0_0:List Int} {i_1:Int} {r:Int} (h:Zca N a_0_0 i_1=some r):SndQ Tryz.prog 124 [.agg [L.arr .u64 4 a_0_0],.one (L.int .i64 i_1)] (Zca.rs r):=fun st=>
 sO Zca.B Tryz.func124 fun g0 w0 R hE=>by
  unfold Zca at h
  refine iteB h (fun c1 h1=>?_) (fun c1 h2=>?_)<;>clear h
  ·obtain rfl:=Zac h1
   exact af fol hE [.r [],.r [(3,{want:=false}),(4,{want:=false})],.c true,.r []] [] 0 [] (aK c1 c1 c1 (eB true))
  ·refine iteB h2 (fun c2 h3=>?_) (fun c2 h4=>?_)<;>clear h2
   ·obtain rfl:=Zac h3
    exact af fol hE [.r [],.r [(5,{yes:=false})],.c true,.r []] [] 0 [] (aK c1 c1 c1 c2)
   ·obtain ⟨c3,c4,c5,h5⟩:=ck3 h4;clear h4
    obtain rfl:=Zac h5
    exact af fol hE [.r [],.r [(5,{yes:=false})],.c false,.r []] [] 0 [] (aO c1 c1 c1 c2 (neI 64) c3 c4 (aJ (neI 64) c5 (neI 2)))
noncomputable def Zbp.B:Code:=Tryz.f96.body.getD .skip
noncomputable def Zbp.rs (r:Bool):List CV:=[.one (L.bool r)]
noncomputable def Zbp.p1 (N:Nat) (a_0_0 b_1_0:List Int) (c1_:Int→Option Bool):Int→Option Bool:=fun i_1=>
 if (decide (i_1≥0))=true then
  optE (Zca N a_0_0 i_1) fun x2=>
  optE (Zca N b_1_0 i_1) fun x3=>
  if (x2 != x3)=true then
   some (decide (x2<x3))
  else
  c1_ (w64 (i_1-1))
 else
 some false
noncomputable def Zbp (N:Nat) (a_0_0 b_1_0:List Int):Option Bool:=
 loopN (Zbp.p1 N a_0_0 b_1_0) N 255
noncomputable def Zbp.p1.S (i_1:Int) (a_0_0 b_1_0:List Int) (st:LL):S:=mkS 24 [(2,.one (.adr (.site 2) 0)),(3,.one (.adr (.site 3) 0)),(5,.one (.l (L.int .i64 i_1)))] [(2,.cells [L.arr .u64 4 a_0_0]),(3,.cells [L.arr .u64 4 b_1_0])] st
theorem Zbp.p1_ok {i_1 a_0_0 b_1_0 st r c1_ J1} (h:Zbp.p1 N a_0_0 b_1_0 c1_ i_1=some r) (hE:En Tryz.f96 g0 w0 (Zbp.rs r) st R) (hc1 : ∀i_1,c1_ i_1=some r→At g0 w0 (Zbp.p1.S i_1 a_0_0 b_1_0 st) J1):At g0 w0 (Zbp.p1.S i_1 a_0_0 b_1_0 st) (XK Tryz.prog R (.c (csub Zbp.B [1,0,1,0,0]) :: .h J1 :: [.b 0,.c (csub Zbp.B [1,1])])):=by
 unfold Zbp.p1 at h
 refine iteB h (fun c1 h1=>?_) (fun c1 h2=>?_)<;>clear h
 ·obtain ⟨x2,c2,h3⟩:=Zaf h1;clear h1
  obtain ⟨x3,c3,h4⟩:=Zaf h3;clear h3
  refine iteB h4 (fun c4 h5=>?_) (fun c4 h6=>?_)<;>clear h4
  ·obtain rfl:=Zac h5
   exact afd fol hE [.r [],.c true,.d {ds:=[(2,{rs:=[.one (L.int .i64 x2)],m:=1}),(5,{rs:=[.one (L.int .i64 x3)],m:=1})],hv:=0,Hs:=[]},.c true,.d {ds:=[(2,{rs:=[.one (L.int .i64 x2)],m:=1}),(5,{rs:=[.one (L.int .i64 x3)],m:=1})],hv:=0,Hs:=[]}] [] 0 [] (aM c1 (Zca.snd c2) (Zca.snd c3) c4 (Zca.snd c2) (Zca.snd c3))
  ·exact and_ fol [.r [],.c true,.d {ds:=[(2,{rs:=[.one (L.int .i64 x2)],m:=1}),(5,{rs:=[.one (L.int .i64 x3)],m:=1})],hv:=0,Hs:=[]},.c false,.r []] [2,3,5] [2,3] (aK c1 (Zca.snd c2) (Zca.snd c3) c4) (hc1 (w64 (i_1-1)) h6)
 ·obtain rfl:=Zac h2
  exact af fol hE [.r [],.c false,.r []] [] 0 [] c1
theorem Zbp.snd {a_0_0 b_1_0:List Int} {r:Bool} (h:Zbp N a_0_0 b_1_0=some r):SndQ Tryz.prog 96 [.agg [L.arr .u64 4 a_0_0],.agg [L.arr .u64 4 b_1_0]] (Zbp.rs r):=fun st=>
 sO Zbp.B Tryz.func96 fun g0 w0 R hE=>by
  unfold Zbp at h
  exact aq fol [.r [],.r []] [2,3,5] [2,3] trivial (At.loop N (At.loopN (fun y:Int=>Zbp.p1.S y a_0_0 b_1_0 st) (fun c J hc y h=>Zbp.p1_ok h hE (fun i_1=>hc i_1)) N 255 h))
noncomputable def ZbA.B:Code:=Tryz.f95.body.getD .skip
noncomputable def ZbA.rs (r:(List Int)×Bool):List CV:=[.agg [L.arr .u64 4 r.1],.one (L.bool r.2)]
noncomputable def ZbA (N:Nat) (bits_0 limit_1:Int):Option ((List Int)×Bool):=
 optE (Zat N bits_0) fun (x1,x2,x3)=>
 optE (Zat N limit_1) fun (x4,x5,x6)=>
 if x2=true then
  some (List.replicate 4 0,false)
 else
 if x3=true then
  some (List.replicate 4 0,false)
 else
 if x5=true then
  some (List.replicate 4 0,false)
 else
 if x6=true then
  some (List.replicate 4 0,false)
 else
 if (x1==(List.replicate 4 0))=true then
  some (List.replicate 4 0,false)
 else
 optE (Zbp N x4 x1) fun x7=>
 if x7=true then
  some (List.replicate 4 0,false)
 else
 some (x1,true)
theorem ZbA.snd {bits_0 limit_1:Int} {r:(List Int)×Bool} (h:ZbA N bits_0 limit_1=some r):SndQ Tryz.prog 95 [.one (L.int .i64 bits_0),.one (L.int .i64 limit_1)] (ZbA.rs r):=fun st=>
 sO ZbA.B Tryz.func95 fun g0 w0 R hE=>by
  unfold ZbA at h
  obtain ⟨⟨x1,x2,x3⟩,c1,h1⟩:=Zaf h;clear h
  obtain ⟨⟨x4,x5,x6⟩,c2,h2⟩:=Zaf h1;clear h1
  refine iteB h2 (fun c3 h3=>?_) (fun c3 h4=>?_)<;>clear h2
  ·obtain rfl:=Zac h3
   exact af fol hE [.r [],.r [(1,{rs:=[.agg [L.arr .u64 4 x1],.one (L.bool x2),.one (L.bool x3)],m:=1})],.r [(1,{rs:=[.agg [L.arr .u64 4 x4],.one (L.bool x5),.one (L.bool x6)],m:=1})],.r [(2,{want:=false}),(5,{want:=false}),(8,{want:=false}),(11,{want:=false}),(12,{want:=false}),(13,{want:=false}),(16,{want:=false}),(17,{want:=false}),(18,{want:=false})],.c true,.r []] [] 0 [] (aO (Zat.snd c1) (Zat.snd c2) c3 c3 (eB true) (eB true) (eB true) (aO (eB true) (eB true) (eB true) (eB true) (eB true) (eB true) (eB true) (aJ (eB true) (eB true) (eB true))))
  ·refine iteB h4 (fun c4 h5=>?_) (fun c4 h6=>?_)<;>clear h4
   ·obtain rfl:=Zac h5
    exact af fol hE [.r [],.r [(1,{rs:=[.agg [L.arr .u64 4 x1],.one (L.bool x2),.one (L.bool x3)],m:=1})],.r [(1,{rs:=[.agg [L.arr .u64 4 x4],.one (L.bool x5),.one (L.bool x6)],m:=1})],.r [(3,{yes:=false}),(5,{want:=false}),(8,{want:=false}),(11,{want:=false}),(12,{want:=false}),(13,{want:=false}),(16,{want:=false}),(17,{want:=false}),(18,{want:=false})],.c true,.r []] [] 0 [] (aO (Zat.snd c1) (Zat.snd c2) c3 c3 c4 c4 (eB true) (aO (eB true) (eB true) (eB true) (eB true) (eB true) (eB true) (eB true) (aJ (eB true) (eB true) (eB true))))
   ·refine iteB h6 (fun c5 h7=>?_) (fun c5 h8=>?_)<;>clear h6
    ·obtain rfl:=Zac h7
     exact af fol hE [.r [],.r [(1,{rs:=[.agg [L.arr .u64 4 x1],.one (L.bool x2),.one (L.bool x3)],m:=1})],.r [(1,{rs:=[.agg [L.arr .u64 4 x4],.one (L.bool x5),.one (L.bool x6)],m:=1})],.r [(3,{yes:=false}),(6,{yes:=false}),(8,{want:=false}),(11,{want:=false}),(12,{want:=false}),(13,{want:=false}),(16,{want:=false}),(17,{want:=false}),(18,{want:=false})],.c true,.r []] [] 0 [] (aO (Zat.snd c1) (Zat.snd c2) c3 c3 c4 c4 c5 (aO c5 (eB true) (eB true) (eB true) (eB true) (eB true) (eB true) (aJ (eB true) (eB true) (eB true))))
    ·refine iteB h8 (fun c6 h9=>?_) (fun c6 h10=>?_)<;>clear h8
     ·obtain rfl:=Zac h9
      exact af fol hE [.r [],.r [(1,{rs:=[.agg [L.arr .u64 4 x1],.one (L.bool x2),.one (L.bool x3)],m:=1})],.r [(1,{rs:=[.agg [L.arr .u64 4 x4],.one (L.bool x5),.one (L.bool x6)],m:=1})],.r [(3,{yes:=false}),(6,{yes:=false}),(9,{yes:=false}),(11,{want:=false}),(12,{want:=false}),(13,{want:=false}),(16,{want:=false}),(17,{want:=false}),(18,{want:=false})],.c true,.r []] [] 0 [] (aO (Zat.snd c1) (Zat.snd c2) c3 c3 c4 c4 c5 (aO c5 c6 c6 c6 c6 (eB true) (eB true) (aJ (eB true) (eB true) (eB true))))
     ·refine iteB h10 (fun c7 h11=>?_) (fun c7 h12=>?_)<;>clear h10
      ·obtain rfl:=Zac h11
       exact af fol hE [.r [],.r [(1,{rs:=[.agg [L.arr .u64 4 x1],.one (L.bool x2),.one (L.bool x3)],m:=1})],.r [(1,{rs:=[.agg [L.arr .u64 4 x4],.one (L.bool x5),.one (L.bool x6)],m:=1})],.r [(3,{yes:=false}),(6,{yes:=false}),(9,{yes:=false}),(14,{yes:=false}),(16,{want:=false}),(17,{want:=false}),(18,{want:=false})],.c true,.r []] [] 0 [] (aO (Zat.snd c1) (Zat.snd c2) c3 c3 c4 c4 c5 (aO c5 c6 c6 c6 c6 c7 c7 (aJ c7 c7 (eB true))))
      ·obtain ⟨x7,c8,h13⟩:=Zaf h12;clear h12
       refine iteB h13 (fun c9 h14=>?_) (fun c9 h15=>?_)<;>clear h13
       ·obtain rfl:=Zac h14
        exact af fol hE [.r [],.r [(1,{rs:=[.agg [L.arr .u64 4 x1],.one (L.bool x2),.one (L.bool x3)],m:=1})],.r [(1,{rs:=[.agg [L.arr .u64 4 x4],.one (L.bool x5),.one (L.bool x6)],m:=1})],.r [(3,{yes:=false}),(6,{yes:=false}),(9,{yes:=false}),(14,{yes:=false}),(18,{rs:=[.one (L.bool x7)],m:=1}),(19,{yes:=false})],.c true,.r []] [] 0 [] (aO (Zat.snd c1) (Zat.snd c2) c3 c3 c4 c4 c5 (aO c5 c6 c6 c6 c6 c7 c7 (aK c7 (Zbp.snd c8) c7 c9)))
       ·obtain rfl:=Zac h15
        exact af fol hE [.r [],.r [(1,{rs:=[.agg [L.arr .u64 4 x1],.one (L.bool x2),.one (L.bool x3)],m:=1})],.r [(1,{rs:=[.agg [L.arr .u64 4 x4],.one (L.bool x5),.one (L.bool x6)],m:=1})],.r [(3,{yes:=false}),(6,{yes:=false}),(9,{yes:=false}),(14,{yes:=false}),(18,{rs:=[.one (L.bool x7)],m:=1}),(19,{yes:=false})],.c false,.r []] [] 0 [] (aO (Zat.snd c1) (Zat.snd c2) c3 c3 c4 c4 c5 (aO c5 c6 c6 c6 c6 c7 c7 (aK c7 (Zbp.snd c8) c7 c9)))
noncomputable def Zcj.B:Code:=Tryz.f65.body.getD .skip
noncomputable def Zcj.rs (r:Bool):List CV:=[.one (L.bool r)]
noncomputable def Zcj (N:Nat) (p_0:Zal):Option Bool:=
 optE (ZbA N p_0.Limit p_0.Limit) fun (x1,x2)=>
 if x2=true then
  if (decide (p_0.Interval≥2))=true then
   if (decide (p_0.Interval≤64))=true then
    if (decide (p_0.Spacing≥1))=true then
     if (decide (p_0.Spacing≤10000))=true then
      if (decide (p_0.Future≥0))=true then
       some (decide (p_0.Future<4294967296))
      else
      some false
     else
     some false
    else
    some false
   else
   some false
  else
  some false
 else
 some false
theorem Zcj.snd {p_0:Zal} {r:Bool} (h:Zcj N p_0=some r):SndQ Tryz.prog 65 [.agg p_0.ls] (Zcj.rs r):=fun st=>
 sO Zcj.B Tryz.func65 fun g0 w0 R hE=>by
  unfold Zcj at h
  obtain ⟨⟨x1,x2⟩,c1,h1⟩:=Zaf h;clear h
  refine iteB h1 (fun c2 h2=>?_) (fun c2 h3=>?_)<;>clear h1
  ·refine iteB h2 (fun c3 h4=>?_) (fun c3 h5=>?_)<;>clear h2
   ·refine iteB h4 (fun c4 h6=>?_) (fun c4 h7=>?_)<;>clear h4
    ·refine iteB h6 (fun c5 h8=>?_) (fun c5 h9=>?_)<;>clear h6
     ·refine iteB h8 (fun c6 h10=>?_) (fun c6 h11=>?_)<;>clear h8
      ·refine iteB h10 (fun c7 h12=>?_) (fun c7 h13=>?_)<;>clear h10
       ·obtain rfl:=Zac h12
        exact af fol hE [.r [],.r [(4,{rs:=[.agg [L.arr .u64 4 x1],.one (L.bool x2)],m:=1})],.r []] [] 0 [] (aO (ZbA.snd c1) c2 c2 c2 c2 c3 c3 (aO c3 c3 c4 c4 c4 c4 c5 (aO c5 c5 c5 c6 c6 c6 c6 (aK c7 c7 c7 c7))))
       ·obtain rfl:=Zac h13
        exact af fol hE [.r [],.r [(4,{rs:=[.agg [L.arr .u64 4 x1],.one (L.bool x2)],m:=1})],.r [(27,{want:=false}),(28,{want:=false}),(29,{want:=false}),(30,{yes:=false})]] [] 0 [] (aO (ZbA.snd c1) c2 c2 c2 c2 c3 c3 (aO c3 c3 c4 c4 c4 c4 c5 (aO c5 c5 c5 c6 c6 c6 c6 (aK c7 c7 c7 c7))))
      ·obtain rfl:=Zac h11
       exact af fol hE [.r [],.r [(4,{rs:=[.agg [L.arr .u64 4 x1],.one (L.bool x2)],m:=1})],.r [(22,{want:=false}),(23,{want:=false}),(24,{want:=false}),(25,{yes:=false}),(27,{want:=false}),(28,{want:=false}),(29,{want:=false}),(30,{yes:=false})]] [] 0 [] (aO (ZbA.snd c1) c2 c2 c2 c2 c3 c3 (aO c3 c3 c4 c4 c4 c4 c5 (aO c5 c5 c5 c6 c6 c6 c6 (aK (eB false) (eB false) (eB false) (eB false)))))
     ·obtain rfl:=Zac h9
      exact af fol hE [.r [],.r [(4,{rs:=[.agg [L.arr .u64 4 x1],.one (L.bool x2)],m:=1})],.r [(17,{want:=false}),(18,{want:=false}),(19,{want:=false}),(20,{yes:=false}),(22,{want:=false}),(23,{want:=false}),(24,{want:=false}),(25,{yes:=false}),(27,{want:=false}),(28,{want:=false}),(29,{want:=false}),(30,{yes:=false})]] [] 0 [] (aO (ZbA.snd c1) c2 c2 c2 c2 c3 c3 (aO c3 c3 c4 c4 c4 c4 c5 (aO c5 c5 c5 (eB false) (eB false) (eB false) (eB false) (aK (eB false) (eB false) (eB false) (eB false)))))
    ·obtain rfl:=Zac h7
     exact af fol hE [.r [],.r [(4,{rs:=[.agg [L.arr .u64 4 x1],.one (L.bool x2)],m:=1})],.r [(12,{want:=false}),(13,{want:=false}),(14,{want:=false}),(15,{yes:=false}),(17,{want:=false}),(18,{want:=false}),(19,{want:=false}),(20,{yes:=false}),(22,{want:=false}),(23,{want:=false}),(24,{want:=false}),(25,{yes:=false}),(27,{want:=false}),(28,{want:=false}),(29,{want:=false}),(30,{yes:=false})]] [] 0 [] (aO (ZbA.snd c1) c2 c2 c2 c2 c3 c3 (aO c3 c3 c4 c4 c4 c4 (eB false) (aO (eB false) (eB false) (eB false) (eB false) (eB false) (eB false) (eB false) (aK (eB false) (eB false) (eB false) (eB false)))))
   ·obtain rfl:=Zac h5
    exact af fol hE [.r [],.r [(4,{rs:=[.agg [L.arr .u64 4 x1],.one (L.bool x2)],m:=1})],.r [(7,{want:=false}),(8,{want:=false}),(9,{want:=false}),(10,{yes:=false}),(12,{want:=false}),(13,{want:=false}),(14,{want:=false}),(15,{yes:=false}),(17,{want:=false}),(18,{want:=false}),(19,{want:=false}),(20,{yes:=false}),(22,{want:=false}),(23,{want:=false}),(24,{want:=false}),(25,{yes:=false}),(27,{want:=false}),(28,{want:=false}),(29,{want:=false}),(30,{yes:=false})]] [] 0 [] (aO (ZbA.snd c1) c2 c2 c2 c2 c3 c3 (aO c3 c3 (eB false) (eB false) (eB false) (eB false) (eB false) (aO (eB false) (eB false) (eB false) (eB false) (eB false) (eB false) (eB false) (aK (eB false) (eB false) (eB false) (eB false)))))
  ·obtain rfl:=Zac h3
   exact af fol hE [.r [],.r [(4,{rs:=[.agg [L.arr .u64 4 x1],.one (L.bool x2)],m:=1})],.r [(2,{want:=false}),(3,{want:=false}),(4,{want:=false}),(5,{yes:=false}),(7,{want:=false}),(8,{want:=false}),(9,{want:=false}),(10,{yes:=false}),(12,{want:=false}),(13,{want:=false}),(14,{want:=false}),(15,{yes:=false}),(17,{want:=false}),(18,{want:=false}),(19,{want:=false}),(20,{yes:=false}),(22,{want:=false}),(23,{want:=false}),(24,{want:=false}),(25,{yes:=false}),(27,{want:=false}),(28,{want:=false}),(29,{want:=false}),(30,{yes:=false})]] [] 0 [] (aO (ZbA.snd c1) c2 c2 c2 c2 (eB false) (eB false) (aO (eB false) (eB false) (eB false) (eB false) (eB false) (eB false) (eB false) (aO (eB false) (eB false) (eB false) (eB false) (eB false) (eB false) (eB false) (aK (eB false) (eB false) (eB false) (eB false)))))
noncomputable def ZaK.B:Code:=Tryz.f21.body.getD .skip
noncomputable def ZaK.rs (r:Bool):List CV:=[.one (L.bool r)]
noncomputable def ZaK.p2 (N:Nat) (p_0:Zal) (c2_:(Int×Int)→Option Bool):(Int×Int)→Option Bool:=fun (last_6,v7)=>
 if (decide (v7<(len p_0.Checks)))=true then
  chk (0≤v7)<|
  getE (p_0.Checks[Int.toNat v7]?) ZcE fun x8=>
  if (decide (x8.Height≤last_6))=true then
   some false
  else
  c2_ (x8.Height,w64 (v7+1))
 else
 some true
noncomputable def ZaK.p1 (N:Nat) (p_0:Zal) (c1_:(Int×Int)→Option Bool):(Int×Int)→Option Bool:=fun (last_3,v4)=>
 if (decide (v4<(len p_0.Gates)))=true then
  chk (0≤v4)<|
  getE (p_0.Gates[Int.toNat v4]?) ZcN fun x5=>
  if (decide (x5.Height≤last_3))=true then
   some false
  else
  c1_ (x5.Height,w64 (v4+1))
 else
 loopN (ZaK.p2 N p_0) N (0,0)
noncomputable def ZaK (N:Nat) (p_0:Zal):Option Bool:=
 optE (Zcj N p_0) fun x1=>
 if (!x1)=true then
  some false
 else
 optE (ZbX N p_0.Genesis) fun x2=>
 if (!x2)=true then
  some false
 else
 loopN (ZaK.p1 N p_0) N ((-1),0)
noncomputable def ZaK.p2.S (last_6:Int) (p_0:Zal) (v7:Int) (st:LL):S:=mkS 45 [(3,.one (.l (L.int .i64 last_6))),(32,.one (.l (L.sl 33 p_0.Checks))),(33,.one (.l (L.int .i64 (len p_0.Checks)))),(34,.one (.l (L.int .i64 v7)))] [] st
noncomputable def ZaK.p1.S (last_3:Int) (p_0:Zal) (v4:Int) (st:LL):S:=mkS 45 [(1,.one (.adr (.site 1) 0)),(3,.one (.l (L.int .i64 last_3))),(18,.one (.l (L.sl 2 p_0.Gates))),(19,.one (.l (L.int .i64 (len p_0.Gates)))),(20,.one (.l (L.int .i64 v4)))] [(1,.cells p_0.ls)] st
theorem ZaK.p2_ok {last_6 p_0 v7 st r c2_ J2} (h:ZaK.p2 N p_0 c2_ (last_6,v7)=some r) (hE:En Tryz.f21 g0 w0 (ZaK.rs r) st R) (hc2 : ∀last_6 v7,c2_ (last_6,v7)=some r→At g0 w0 (ZaK.p2.S last_6 p_0 v7 st) J2):At g0 w0 (ZaK.p2.S last_6 p_0 v7 st) (XK Tryz.prog R (.c (csub ZaK.B [1,1,1,1,1,0,1,0,0]) :: .h J2 :: [.b 2,.c (csub ZaK.B [1,1,1,1,1,1])])):=by
 unfold ZaK.p2 at h
 refine iteB h (fun c9 h1=>?_) (fun c9 h2=>?_)<;>clear h
 ·obtain ⟨c10,h3⟩:=ZaO h1;clear h1
  obtain ⟨x8,c11,h4⟩:=ZcT h3;clear h3
  refine iteB h4 (fun c12 h5=>?_) (fun c12 h6=>?_)<;>clear h4
  ·obtain rfl:=Zac h5
   exact af fol hE [.r [],.c true,.r [(1,{oe:=x8.ls})],.r [],.c true,.r []] [] 0 [] (aL c9 c10 (oD c9) c11 c12)
  ·exact an fol [.r [],.c true,.r [(1,{oe:=x8.ls})],.r [],.c false,.r [],.r []] [3,32,33,34] [] (aL c9 c10 (oD c9) c11 c12) (hc2 x8.Height (w64 (v7+1)) h6)
 ·obtain rfl:=Zac h2
  exact af fol hE [.r [],.c false,.r []] [] 0 [] c9
theorem ZaK.p1_ok {last_3 p_0 v4 st r c1_ J1} (h:ZaK.p1 N p_0 c1_ (last_3,v4)=some r) (hE:En Tryz.f21 g0 w0 (ZaK.rs r) st R) (hc1 : ∀last_3 v4,c1_ (last_3,v4)=some r→At g0 w0 (ZaK.p1.S last_3 p_0 v4 st) J1):At g0 w0 (ZaK.p1.S last_3 p_0 v4 st) (XK Tryz.prog R (.c (csub ZaK.B [1,1,1,0,1,0,0]) :: .h J1 :: [.b 0,.c (csub ZaK.B [1,1,1,1])])):=by
 unfold ZaK.p1 at h
 refine iteB h (fun c5 h7=>?_) (fun c5 h8=>?_)<;>clear h
 ·obtain ⟨c6,h9⟩:=ZaO h7;clear h7
  obtain ⟨x5,c7,h10⟩:=ZcX h9;clear h9
  refine iteB h10 (fun c8 h11=>?_) (fun c8 h12=>?_)<;>clear h10
  ·obtain rfl:=Zac h11
   exact af fol hE [.r [],.c true,.r [(1,{oe:=x5.ls})],.r [],.c true,.r []] [] 0 [] (aL c5 c6 (oD c5) c7 c8)
  ·exact an fol [.r [],.c true,.r [(1,{oe:=x5.ls})],.r [],.c false,.r [],.r []] [1,3,18,19,20] [1] (aL c5 c6 (oD c5) c7 c8) (hc1 x5.Height (w64 (v4+1)) h12)
 ·exact aq fol [.r [],.c false,.r [],.r []] [3,32,33,34] [] c5 (At.loop N (At.loopN (fun y:Int×Int=>ZaK.p2.S y.1 p_0 y.2 st) (fun c J hc y h=>ZaK.p2_ok (last_6:=y.1) (v7:=y.2) h hE (fun last_6 v7=>hc (last_6,v7))) N (0,0) h8))
theorem ZaK.snd {p_0:Zal} {r:Bool} (h:ZaK N p_0=some r):SndQ Tryz.prog 21 [.agg p_0.ls] (ZaK.rs r):=fun st=>
 sO ZaK.B Tryz.func21 fun g0 w0 R hE=>by
  unfold ZaK at h
  obtain ⟨x1,c1,h13⟩:=Zaf h;clear h
  refine iteB h13 (fun c2 h14=>?_) (fun c2 h15=>?_)<;>clear h13
  ·obtain rfl:=Zac h14
   exact af fol hE [.r [],.r [(1,{rs:=[.one (L.bool x1)],m:=1}),(4,{want:=false}),(5,{want:=false}),(6,{want:=false}),(7,{want:=false})],.c true,.r []] [] 0 [] (aN (Zcj.snd c1) (not_false (ZbQ c2)) (not_false (ZbQ c2)) (not_false (ZbQ c2)) (not_false (ZbQ c2)) (not_false (ZbQ c2)) (eB true))
  ·obtain ⟨x2,c3,h16⟩:=Zaf h15;clear h15
   refine iteB h16 (fun c4 h17=>?_) (fun c4 h18=>?_)<;>clear h16
   ·obtain rfl:=Zac h17
    exact af fol hE [.r [],.r [(1,{rs:=[.one (L.bool x1)],m:=1}),(6,{rs:=[.one (L.bool x2)],m:=1}),(8,{yes:=false})],.c true,.r []] [] 0 [] (aO (Zcj.snd c1) (not_true (ZaH c2)) (not_true (ZaH c2)) (not_true (ZaH c2)) (ZbX.snd c3) (not_true (ZaH c2)) (not_true (ZaH c2)) c4)
   ·exact aq fol [.r [],.r [(1,{rs:=[.one (L.bool x1)],m:=1}),(6,{rs:=[.one (L.bool x2)],m:=1}),(8,{yes:=false})],.c false,.r [],.r []] [1,3,18,19,20] [1] (aO (Zcj.snd c1) (not_true (ZaH c2)) (not_true (ZaH c2)) (not_true (ZaH c2)) (ZbX.snd c3) (not_true (ZaH c2)) (not_true (ZaH c2)) c4) (At.loop N (At.loopN (fun y:Int×Int=>ZaK.p1.S y.1 p_0 y.2 st) (fun c J hc y h=>ZaK.p1_ok (last_3:=y.1) (v4:=y.2) h hE (fun last_3 v4=>hc (last_3,v4))) N ((-1),0) h18))
noncomputable def Zcq.B:Code:=Tryz.f26.body.getD .skip
noncomputable def Zcq.rs (r:(Option Nat)×LL):List CV:=[.one (L.ptr r.1)]
noncomputable def Zcq (N:Nat) (p_0:Zal) (room_1:Int) (st:LL):Option ((Option Nat)×LL):=
 optE (Zcn N p_0 room_1 st) fun (x1,x2,st3)=>
 some (x1,st3)
theorem Zcq.snd {p_0:Zal} {room_1:Int} {st:LL} {r:(Option Nat)×LL} (h:Zcq N p_0 room_1 st=some r):Snd Tryz.prog 26 [.agg p_0.ls,.one (L.int .i64 room_1)] st (Zcq.rs r) r.2:=
 sO Zcq.B Tryz.func26 fun g0 w0 R hE=>by
  unfold Zcq at h
  obtain ⟨⟨x1,x2,st3⟩,c1,h1⟩:=Zaf h;clear h
  obtain rfl:=Zac h1
  exact af fol hE [.r [],.r [(2,{rs:=[.one (L.ptr x1),.one (L.int .i64 x2)],st:=st3})],.r []] [] 0 [] (Zcn.snd c1)
noncomputable def Zcx.B:Code:=Tryz.f109.body.getD .skip
noncomputable def Zcx.rs (r:Int):List CV:=[.one (L.int .i64 r)]
noncomputable def Zcx (N:Nat) (p_0:Zal) (from_1 to_2:Int):Option Int:=
 some (if (w64 ((w64 (p_0.Interval*p_0.Spacing))*4))<(if (w64 (Int.tdiv (w64 (p_0.Interval*p_0.Spacing)) 4))>(w64 (to_2-from_1)) then (w64 (Int.tdiv (w64 (p_0.Interval*p_0.Spacing)) 4)) else (w64 (to_2-from_1))) then (w64 ((w64 (p_0.Interval*p_0.Spacing))*4)) else (if (w64 (Int.tdiv (w64 (p_0.Interval*p_0.Spacing)) 4))>(w64 (to_2-from_1)) then (w64 (Int.tdiv (w64 (p_0.Interval*p_0.Spacing)) 4)) else (w64 (to_2-from_1))))
theorem Zcx.snd {p_0:Zal} {from_1 to_2:Int} {r:Int} (h:Zcx N p_0 from_1 to_2=some r):SndQ Tryz.prog 109 [.agg p_0.ls,.one (L.int .i64 from_1),.one (L.int .i64 to_2)] (Zcx.rs r):=fun st=>
 sO Zcx.B Tryz.func109 fun g0 w0 R hE=>by
  unfold Zcx at h
  obtain rfl:=Zac h
  exact af fol hE [.r [],.r [],.r []] [] 0 [] (neI 4)
noncomputable def Zbf.B:Code:=Tryz.f152.body.getD .skip
noncomputable def Zbf.rs (r:Int):List CV:=[.one (L.int .i64 r)]
noncomputable def Zbf (N:Nat) (x_0:Int):Option Int:=
 optE (Zap N x_0) fun x1=>
 some (w64 (64-x1))
theorem Zbf.snd {x_0:Int} {r:Int} (h:Zbf N x_0=some r):SndQ Tryz.prog 152 [.one (L.int .u64 x_0)] (Zbf.rs r):=fun st=>
 sO Zbf.B Tryz.func152 fun g0 w0 R hE=>by
  unfold Zbf at h
  obtain ⟨x1,c1,h1⟩:=Zaf h;clear h
  obtain rfl:=Zac h1
  exact af fol hE [.r [],.r [(1,{rs:=[.one (L.int .i64 x1)],m:=1})]] [] 0 [] (Zap.snd c1)
noncomputable def Zab.B:Code:=Tryz.f135.body.getD .skip
noncomputable def Zab.rs (r:Int×Int):List CV:=[.one (L.int .u64 r.1),.one (L.int .u64 r.2)]
noncomputable def Zab.p6 (N:Nat) (y_2 x1 lo_1 q1_4 hi_0 q0_7:Int):Option (Int×Int):=
 chk (0≤(v64 (x1)))<|
 some (v64 ((v64 (q1_4*4294967296))+q0_7),shrOf .u64 (v64 ((v64 ((v64 ((v64 ((v64 ((v64 ((bitsOf .or .u64 (shlOf .u64 hi_0 (v64 (x1))) (shrOf .u64 lo_1 (v64 (64-(v64 (x1))))))*4294967296))+(shrOf .u64 (shlOf .u64 lo_1 (v64 (x1))) 32)))-(v64 (q1_4*(shlOf .u64 y_2 (v64 (x1)))))))*4294967296))+(bitsOf .and .u64 (shlOf .u64 lo_1 (v64 (x1))) 4294967295)))-(v64 (q0_7*(shlOf .u64 y_2 (v64 (x1))))))) (v64 (x1)))
noncomputable def Zab.p5 (N:Nat) (c4_:(Int×Int)→Option (Int×Int)) (y_2 x1 lo_1 q1_4 rhat_5 hi_0 q0_6:Int):Option (Int×Int):=
 if (decide ((v64 (rhat_5+(shrOf .u64 (shlOf .u64 y_2 (v64 (x1))) 32)))≥4294967296))=true then
  Zab.p6 N y_2 x1 lo_1 q1_4 hi_0 (v64 (q0_6-1))
 else
 c4_ (v64 (rhat_5+(shrOf .u64 (shlOf .u64 y_2 (v64 (x1))) 32)),v64 (q0_6-1))
noncomputable def Zab.p4 (N:Nat) (y_2 x1 lo_1 q1_4 hi_0:Int) (c4_:(Int×Int)→Option (Int×Int)):(Int×Int)→Option (Int×Int):=fun (rhat_5,q0_6)=>
 if (decide (q0_6≥4294967296))=true then
  Zab.p5 N c4_ y_2 x1 lo_1 q1_4 rhat_5 hi_0 q0_6
 else
 if (decide ((v64 (q0_6*(bitsOf .and .u64 (shlOf .u64 y_2 (v64 (x1))) 4294967295)))>(v64 ((v64 (4294967296*rhat_5))+(bitsOf .and .u64 (shlOf .u64 lo_1 (v64 (x1))) 4294967295)))))=true then
  Zab.p5 N c4_ y_2 x1 lo_1 q1_4 rhat_5 hi_0 q0_6
 else
 Zab.p6 N y_2 x1 lo_1 q1_4 hi_0 q0_6
noncomputable def Zab.p3 (N:Nat) (y_2 x1 hi_0 lo_1 q1_4:Int):Option (Int×Int):=
 chk ((shrOf .u64 (shlOf .u64 y_2 (v64 (x1))) 32)≠0)<|
 loopN (Zab.p4 N y_2 x1 lo_1 q1_4 hi_0) N (v64 ((v64 ((v64 ((v64 ((bitsOf .or .u64 (shlOf .u64 hi_0 (v64 (x1))) (shrOf .u64 lo_1 (v64 (64-(v64 (x1))))))*4294967296))+(shrOf .u64 (shlOf .u64 lo_1 (v64 (x1))) 32)))-(v64 (q1_4*(shlOf .u64 y_2 (v64 (x1)))))))-(v64 ((v64 (Int.tdiv (v64 ((v64 ((v64 ((bitsOf .or .u64 (shlOf .u64 hi_0 (v64 (x1))) (shrOf .u64 lo_1 (v64 (64-(v64 (x1))))))*4294967296))+(shrOf .u64 (shlOf .u64 lo_1 (v64 (x1))) 32)))-(v64 (q1_4*(shlOf .u64 y_2 (v64 (x1))))))) (shrOf .u64 (shlOf .u64 y_2 (v64 (x1))) 32)))*(shrOf .u64 (shlOf .u64 y_2 (v64 (x1))) 32)))),v64 (Int.tdiv (v64 ((v64 ((v64 ((bitsOf .or .u64 (shlOf .u64 hi_0 (v64 (x1))) (shrOf .u64 lo_1 (v64 (64-(v64 (x1))))))*4294967296))+(shrOf .u64 (shlOf .u64 lo_1 (v64 (x1))) 32)))-(v64 (q1_4*(shlOf .u64 y_2 (v64 (x1))))))) (shrOf .u64 (shlOf .u64 y_2 (v64 (x1))) 32)))
noncomputable def Zab.p2 (N:Nat) (c1_:(Int×Int)→Option (Int×Int)) (y_2 x1 hi_0 lo_1 q1_2 rhat_3:Int):Option (Int×Int):=
 if (decide ((v64 (rhat_3+(shrOf .u64 (shlOf .u64 y_2 (v64 (x1))) 32)))≥4294967296))=true then
  Zab.p3 N y_2 x1 hi_0 lo_1 (v64 (q1_2-1))
 else
 c1_ (v64 (q1_2-1),v64 (rhat_3+(shrOf .u64 (shlOf .u64 y_2 (v64 (x1))) 32)))
noncomputable def Zab.p1 (N:Nat) (y_2 x1 hi_0 lo_1:Int) (c1_:(Int×Int)→Option (Int×Int)):(Int×Int)→Option (Int×Int):=fun (q1_2,rhat_3)=>
 if (decide (q1_2≥4294967296))=true then
  Zab.p2 N c1_ y_2 x1 hi_0 lo_1 q1_2 rhat_3
 else
 if (decide ((v64 (q1_2*(bitsOf .and .u64 (shlOf .u64 y_2 (v64 (x1))) 4294967295)))>(v64 ((v64 (4294967296*rhat_3))+(shrOf .u64 (shlOf .u64 lo_1 (v64 (x1))) 32)))))=true then
  Zab.p2 N c1_ y_2 x1 hi_0 lo_1 q1_2 rhat_3
 else
 Zab.p3 N y_2 x1 hi_0 lo_1 q1_2
noncomputable def Zab (N:Nat) (hi_0 lo_1 y_2:Int):Option (Int×Int):=
 if (y_2==0)=true then
  none
 else
 if (decide (y_2≤hi_0))=true then
  none
 else
 if (hi_0==0)=true then
  chk (y_2≠0)<|
  some (v64 (Int.tdiv lo_1 y_2),Int.tmod lo_1 y_2)
 else
 optE (Zbf N y_2) fun x1=>
 chk (0≤(v64 (x1)))<|
 chk (0≤(v64 (64-(v64 (x1)))))<|
 chk ((shrOf .u64 (shlOf .u64 y_2 (v64 (x1))) 32)≠0)<|
 loopN (Zab.p1 N y_2 x1 hi_0 lo_1) N (v64 (Int.tdiv (bitsOf .or .u64 (shlOf .u64 hi_0 (v64 (x1))) (shrOf .u64 lo_1 (v64 (64-(v64 (x1)))))) (shrOf .u64 (shlOf .u64 y_2 (v64 (x1))) 32)),v64 ((bitsOf .or .u64 (shlOf .u64 hi_0 (v64 (x1))) (shrOf .u64 lo_1 (v64 (64-(v64 (x1))))))-(v64 ((v64 (Int.tdiv (bitsOf .or .u64 (shlOf .u64 hi_0 (v64 (x1))) (shrOf .u64 lo_1 (v64 (64-(v64 (x1)))))) (shrOf .u64 (shlOf .u64 y_2 (v64 (x1))) 32)))*(shrOf .u64 (shlOf .u64 y_2 (v64 (x1))) 32)))))
noncomputable def Zab.p6.S (y_2 x1 lo_1 q1_4 hi_0 q0_7:Int) (st:LL):S:=mkS 135 [(2,.one (.l (L.int .u64 (shlOf .u64 y_2 (v64 (x1)))))),(8,.one (.l (L.int .u64 (v64 (x1))))),(14,.one (.l (L.int .u64 (bitsOf .and .u64 (shlOf .u64 lo_1 (v64 (x1))) 4294967295)))),(15,.one (.l (L.int .u64 q1_4))),(17,.one (.l (L.int .u64 (v64 ((v64 ((v64 ((bitsOf .or .u64 (shlOf .u64 hi_0 (v64 (x1))) (shrOf .u64 lo_1 (v64 (64-(v64 (x1))))))*4294967296))+(shrOf .u64 (shlOf .u64 lo_1 (v64 (x1))) 32)))-(v64 (q1_4*(shlOf .u64 y_2 (v64 (x1)))))))))),(18,.one (.l (L.int .u64 q0_7)))] [] st
noncomputable def Zab.p5.S (y_2 x1 lo_1 q1_4 rhat_5 hi_0 q0_6:Int) (st:LL):S:=mkS 135 [(2,.one (.l (L.int .u64 (shlOf .u64 y_2 (v64 (x1)))))),(8,.one (.l (L.int .u64 (v64 (x1))))),(9,.one (.l (L.int .u64 (shrOf .u64 (shlOf .u64 y_2 (v64 (x1))) 32)))),(10,.one (.l (L.int .u64 (bitsOf .and .u64 (shlOf .u64 y_2 (v64 (x1))) 4294967295)))),(14,.one (.l (L.int .u64 (bitsOf .and .u64 (shlOf .u64 lo_1 (v64 (x1))) 4294967295)))),(15,.one (.l (L.int .u64 q1_4))),(16,.one (.l (L.int .u64 rhat_5))),(17,.one (.l (L.int .u64 (v64 ((v64 ((v64 ((bitsOf .or .u64 (shlOf .u64 hi_0 (v64 (x1))) (shrOf .u64 lo_1 (v64 (64-(v64 (x1))))))*4294967296))+(shrOf .u64 (shlOf .u64 lo_1 (v64 (x1))) 32)))-(v64 (q1_4*(shlOf .u64 y_2 (v64 (x1)))))))))),(18,.one (.l (L.int .u64 q0_6)))] [] st
noncomputable def Zab.p4.S (y_2 x1 lo_1 q1_4 rhat_5 hi_0 q0_6:Int) (st:LL):S:=mkS 135 [(2,.one (.l (L.int .u64 (shlOf .u64 y_2 (v64 (x1)))))),(8,.one (.l (L.int .u64 (v64 (x1))))),(9,.one (.l (L.int .u64 (shrOf .u64 (shlOf .u64 y_2 (v64 (x1))) 32)))),(10,.one (.l (L.int .u64 (bitsOf .and .u64 (shlOf .u64 y_2 (v64 (x1))) 4294967295)))),(14,.one (.l (L.int .u64 (bitsOf .and .u64 (shlOf .u64 lo_1 (v64 (x1))) 4294967295)))),(15,.one (.l (L.int .u64 q1_4))),(16,.one (.l (L.int .u64 rhat_5))),(17,.one (.l (L.int .u64 (v64 ((v64 ((v64 ((bitsOf .or .u64 (shlOf .u64 hi_0 (v64 (x1))) (shrOf .u64 lo_1 (v64 (64-(v64 (x1))))))*4294967296))+(shrOf .u64 (shlOf .u64 lo_1 (v64 (x1))) 32)))-(v64 (q1_4*(shlOf .u64 y_2 (v64 (x1)))))))))),(18,.one (.l (L.int .u64 q0_6)))] [] st
noncomputable def Zab.p3.S (y_2 x1 hi_0 lo_1 q1_4:Int) (st:LL):S:=mkS 135 [(2,.one (.l (L.int .u64 (shlOf .u64 y_2 (v64 (x1)))))),(8,.one (.l (L.int .u64 (v64 (x1))))),(9,.one (.l (L.int .u64 (shrOf .u64 (shlOf .u64 y_2 (v64 (x1))) 32)))),(10,.one (.l (L.int .u64 (bitsOf .and .u64 (shlOf .u64 y_2 (v64 (x1))) 4294967295)))),(11,.one (.l (L.int .u64 (bitsOf .or .u64 (shlOf .u64 hi_0 (v64 (x1))) (shrOf .u64 lo_1 (v64 (64-(v64 (x1))))))))),(13,.one (.l (L.int .u64 (shrOf .u64 (shlOf .u64 lo_1 (v64 (x1))) 32)))),(14,.one (.l (L.int .u64 (bitsOf .and .u64 (shlOf .u64 lo_1 (v64 (x1))) 4294967295)))),(15,.one (.l (L.int .u64 q1_4)))] [] st
noncomputable def Zab.p2.S (y_2 x1 hi_0 lo_1 q1_2 rhat_3:Int) (st:LL):S:=mkS 135 [(2,.one (.l (L.int .u64 (shlOf .u64 y_2 (v64 (x1)))))),(8,.one (.l (L.int .u64 (v64 (x1))))),(9,.one (.l (L.int .u64 (shrOf .u64 (shlOf .u64 y_2 (v64 (x1))) 32)))),(10,.one (.l (L.int .u64 (bitsOf .and .u64 (shlOf .u64 y_2 (v64 (x1))) 4294967295)))),(11,.one (.l (L.int .u64 (bitsOf .or .u64 (shlOf .u64 hi_0 (v64 (x1))) (shrOf .u64 lo_1 (v64 (64-(v64 (x1))))))))),(13,.one (.l (L.int .u64 (shrOf .u64 (shlOf .u64 lo_1 (v64 (x1))) 32)))),(14,.one (.l (L.int .u64 (bitsOf .and .u64 (shlOf .u64 lo_1 (v64 (x1))) 4294967295)))),(15,.one (.l (L.int .u64 q1_2))),(16,.one (.l (L.int .u64 rhat_3)))] [] st
noncomputable def Zab.p1.S (y_2 x1 hi_0 lo_1 q1_2 rhat_3:Int) (st:LL):S:=mkS 135 [(2,.one (.l (L.int .u64 (shlOf .u64 y_2 (v64 (x1)))))),(8,.one (.l (L.int .u64 (v64 (x1))))),(9,.one (.l (L.int .u64 (shrOf .u64 (shlOf .u64 y_2 (v64 (x1))) 32)))),(10,.one (.l (L.int .u64 (bitsOf .and .u64 (shlOf .u64 y_2 (v64 (x1))) 4294967295)))),(11,.one (.l (L.int .u64 (bitsOf .or .u64 (shlOf .u64 hi_0 (v64 (x1))) (shrOf .u64 lo_1 (v64 (64-(v64 (x1))))))))),(13,.one (.l (L.int .u64 (shrOf .u64 (shlOf .u64 lo_1 (v64 (x1))) 32)))),(14,.one (.l (L.int .u64 (bitsOf .and .u64 (shlOf .u64 lo_1 (v64 (x1))) 4294967295)))),(15,.one (.l (L.int .u64 q1_2))),(16,.one (.l (L.int .u64 rhat_3)))] [] st
theorem Zab.p6_ok {y_2 x1 lo_1 q1_4 hi_0 q0_7 st r} (h:Zab.p6 N y_2 x1 lo_1 q1_4 hi_0 q0_7=some r) (hE:En Tryz.f135 g0 w0 (Zab.rs r) st R):At g0 w0 (Zab.p6.S y_2 x1 lo_1 q1_4 hi_0 q0_7 st) (XK Tryz.prog R [.c (csub Zab.B [1,1,1,1,1,1,1,1,1,1,1,1,1,1,1,1,1,1,1])]):=by
 unfold Zab.p6 at h
 obtain ⟨c16,h1⟩:=ZaO h;clear h
 obtain rfl:=Zac h1
 exact af fol hE [.r []] [] 0 [] c16
theorem Zab.p5_ok {y_2 x1 lo_1 q1_4 rhat_5 hi_0 q0_6 st r c4_ J4} (h:Zab.p5 N c4_ y_2 x1 lo_1 q1_4 rhat_5 hi_0 q0_6=some r) (hE:En Tryz.f135 g0 w0 (Zab.rs r) st R) (hc4 : ∀rhat_5 q0_6,c4_ (rhat_5,q0_6)=some r→At g0 w0 (Zab.p4.S y_2 x1 lo_1 q1_4 rhat_5 hi_0 q0_6 st) J4):At g0 w0 (Zab.p5.S y_2 x1 lo_1 q1_4 rhat_5 hi_0 q0_6 st) (XK Tryz.prog R [.c (csub Zab.B [1,1,1,1,1,1,1,1,1,1,1,1,1,1,1,1,1,1,0,0,0,1]),.h J4,.b 2,.c (csub Zab.B [1,1,1,1,1,1,1,1,1,1,1,1,1,1,1,1,1,1,1])]):=by
 unfold Zab.p5 at h
 refine iteB h (fun c15 h2=>?_) (fun c15 h3=>?_)<;>clear h
 ·exact aq fol [.r [],.r [],.r [],.c true,.s 1] [2,8,14,15,17,18] [] c15 (Zab.p6_ok h2 hE)
 ·exact an fol [.r [],.r [],.r [],.c false] [2,8,9,10,14,15,16,17,18] [] c15 (hc4 (v64 (rhat_5+(shrOf .u64 (shlOf .u64 y_2 (v64 (x1))) 32))) (v64 (q0_6-1)) h3)
theorem Zab.p4_ok {y_2 x1 lo_1 q1_4 rhat_5 hi_0 q0_6 st r c4_ J4} (h:Zab.p4 N y_2 x1 lo_1 q1_4 hi_0 c4_ (rhat_5,q0_6)=some r) (hE:En Tryz.f135 g0 w0 (Zab.rs r) st R) (hc4 : ∀rhat_5 q0_6,c4_ (rhat_5,q0_6)=some r→At g0 w0 (Zab.p4.S y_2 x1 lo_1 q1_4 rhat_5 hi_0 q0_6 st) J4):At g0 w0 (Zab.p4.S y_2 x1 lo_1 q1_4 rhat_5 hi_0 q0_6 st) (XK Tryz.prog R (.c (csub Zab.B [1,1,1,1,1,1,1,1,1,1,1,1,1,1,1,1,1,1,0,0,0]) :: .h J4 :: [.b 2,.c (csub Zab.B [1,1,1,1,1,1,1,1,1,1,1,1,1,1,1,1,1,1,1])])):=by
 unfold Zab.p4 at h
 refine iteB h (fun c13 h4=>?_) (fun c13 h5=>?_)<;>clear h
 ·exact aq fol [.r [(3,{want:=false}),(4,{want:=false}),(5,{want:=false}),(6,{want:=false}),(7,{want:=false}),(8,{want:=false}),(9,{want:=false}),(10,{want:=false})],.c true,.s 4] [2,8,9,10,14,15,16,17,18] [] (aO c13 c13 c13 c13 c13 c13 c13 (aJ c13 c13 (eB true))) (Zab.p5_ok h4 hE hc4)
 ·refine iteB h5 (fun c14 h6=>?_) (fun c14 h7=>?_)<;>clear h5
  ·exact aq fol [.r [(11,{yes:=false})],.c true,.s 4] [2,8,9,10,14,15,16,17,18] [] (aO c13 c13 c13 c13 c13 c13 c13 (aJ c13 c13 c14)) (Zab.p5_ok h6 hE hc4)
  ·exact aq fol [.r [(11,{yes:=false})],.c false,.s 1] [2,8,14,15,17,18] [] (aO c13 c13 c13 c13 c13 c13 c13 (aJ c13 c13 c14)) (Zab.p6_ok h7 hE)
theorem Zab.p3_ok {y_2 x1 hi_0 lo_1 q1_4 st r} (h:Zab.p3 N y_2 x1 hi_0 lo_1 q1_4=some r) (hE:En Tryz.f135 g0 w0 (Zab.rs r) st R):At g0 w0 (Zab.p3.S y_2 x1 hi_0 lo_1 q1_4 st) (XK Tryz.prog R [.c (csub Zab.B [1,1,1,1,1,1,1,1,1,1,1,1,1,1,1])]):=by
 unfold Zab.p3 at h
 obtain ⟨c12,h8⟩:=ZaO h;clear h
 exact aq fol [.r [],.r [],.r []] [2,8,9,10,14,15,16,17,18] [] c12 (At.loop N (At.loopN (fun y:Int×Int=>Zab.p4.S y_2 x1 lo_1 q1_4 y.1 hi_0 y.2 st) (fun c J hc y h=>Zab.p4_ok (rhat_5:=y.1) (q0_6:=y.2) h hE (fun rhat_5 q0_6=>hc (rhat_5,q0_6))) N (v64 ((v64 ((v64 ((v64 ((bitsOf .or .u64 (shlOf .u64 hi_0 (v64 (x1))) (shrOf .u64 lo_1 (v64 (64-(v64 (x1))))))*4294967296))+(shrOf .u64 (shlOf .u64 lo_1 (v64 (x1))) 32)))-(v64 (q1_4*(shlOf .u64 y_2 (v64 (x1)))))))-(v64 ((v64 (Int.tdiv (v64 ((v64 ((v64 ((bitsOf .or .u64 (shlOf .u64 hi_0 (v64 (x1))) (shrOf .u64 lo_1 (v64 (64-(v64 (x1))))))*4294967296))+(shrOf .u64 (shlOf .u64 lo_1 (v64 (x1))) 32)))-(v64 (q1_4*(shlOf .u64 y_2 (v64 (x1))))))) (shrOf .u64 (shlOf .u64 y_2 (v64 (x1))) 32)))*(shrOf .u64 (shlOf .u64 y_2 (v64 (x1))) 32)))),v64 (Int.tdiv (v64 ((v64 ((v64 ((bitsOf .or .u64 (shlOf .u64 hi_0 (v64 (x1))) (shrOf .u64 lo_1 (v64 (64-(v64 (x1))))))*4294967296))+(shrOf .u64 (shlOf .u64 lo_1 (v64 (x1))) 32)))-(v64 (q1_4*(shlOf .u64 y_2 (v64 (x1))))))) (shrOf .u64 (shlOf .u64 y_2 (v64 (x1))) 32))) h8))
theorem Zab.p2_ok {y_2 x1 hi_0 lo_1 q1_2 rhat_3 st r c1_ J1} (h:Zab.p2 N c1_ y_2 x1 hi_0 lo_1 q1_2 rhat_3=some r) (hE:En Tryz.f135 g0 w0 (Zab.rs r) st R) (hc1 : ∀q1_2 rhat_3,c1_ (q1_2,rhat_3)=some r→At g0 w0 (Zab.p1.S y_2 x1 hi_0 lo_1 q1_2 rhat_3 st) J1):At g0 w0 (Zab.p2.S y_2 x1 hi_0 lo_1 q1_2 rhat_3 st) (XK Tryz.prog R [.c (csub Zab.B [1,1,1,1,1,1,1,1,1,1,1,1,1,1,0,0,0,1]),.h J1,.b 0,.c (csub Zab.B [1,1,1,1,1,1,1,1,1,1,1,1,1,1,1])]):=by
 unfold Zab.p2 at h
 refine iteB h (fun c11 h9=>?_) (fun c11 h10=>?_)<;>clear h
 ·exact aq fol [.r [],.r [],.r [],.c true,.s 1] [2,8,9,10,11,13,14,15] [] c11 (Zab.p3_ok h9 hE)
 ·exact an fol [.r [],.r [],.r [],.c false] [2,8,9,10,11,13,14,15,16] [] c11 (hc1 (v64 (q1_2-1)) (v64 (rhat_3+(shrOf .u64 (shlOf .u64 y_2 (v64 (x1))) 32))) h10)
theorem Zab.p1_ok {y_2 x1 hi_0 lo_1 q1_2 rhat_3 st r c1_ J1} (h:Zab.p1 N y_2 x1 hi_0 lo_1 c1_ (q1_2,rhat_3)=some r) (hE:En Tryz.f135 g0 w0 (Zab.rs r) st R) (hc1 : ∀q1_2 rhat_3,c1_ (q1_2,rhat_3)=some r→At g0 w0 (Zab.p1.S y_2 x1 hi_0 lo_1 q1_2 rhat_3 st) J1):At g0 w0 (Zab.p1.S y_2 x1 hi_0 lo_1 q1_2 rhat_3 st) (XK Tryz.prog R (.c (csub Zab.B [1,1,1,1,1,1,1,1,1,1,1,1,1,1,0,0,0]) :: .h J1 :: [.b 0,.c (csub Zab.B [1,1,1,1,1,1,1,1,1,1,1,1,1,1,1])])):=by
 unfold Zab.p1 at h
 refine iteB h (fun c9 h11=>?_) (fun c9 h12=>?_)<;>clear h
 ·exact aq fol [.r [(3,{want:=false}),(4,{want:=false}),(5,{want:=false}),(6,{want:=false}),(7,{want:=false}),(8,{want:=false}),(9,{want:=false}),(10,{want:=false})],.c true,.s 4] [2,8,9,10,11,13,14,15,16] [] (aO c9 c9 c9 c9 c9 c9 c9 (aJ c9 c9 (eB true))) (Zab.p2_ok h11 hE hc1)
 ·refine iteB h12 (fun c10 h13=>?_) (fun c10 h14=>?_)<;>clear h12
  ·exact aq fol [.r [(11,{yes:=false})],.c true,.s 4] [2,8,9,10,11,13,14,15,16] [] (aO c9 c9 c9 c9 c9 c9 c9 (aJ c9 c9 c10)) (Zab.p2_ok h13 hE hc1)
  ·exact aq fol [.r [(11,{yes:=false})],.c false,.s 1] [2,8,9,10,11,13,14,15] [] (aO c9 c9 c9 c9 c9 c9 c9 (aJ c9 c9 c10)) (Zab.p3_ok h14 hE)
theorem Zab.snd {hi_0 lo_1 y_2:Int} {r:Int×Int} (h:Zab N hi_0 lo_1 y_2=some r):SndQ Tryz.prog 135 [.one (L.int .u64 hi_0),.one (L.int .u64 lo_1),.one (L.int .u64 y_2)] (Zab.rs r):=fun st=>
 sO Zab.B Tryz.func135 fun g0 w0 R hE=>by
  unfold Zab at h
  refine iteB h (fun c1 h15=>?_) (fun c1 h16=>?_)<;>clear h
  ·cases h15
  ·refine iteB h16 (fun c2 h17=>?_) (fun c2 h18=>?_)<;>clear h16
   ·cases h17
   ·refine iteB h18 (fun c3 h19=>?_) (fun c3 h20=>?_)<;>clear h18
    ·obtain ⟨c4,h21⟩:=ZaO h19;clear h19
     obtain rfl:=Zac h21
     exact afd fol hE [.r [],.r [],.c false,.r [],.c false,.r [],.c true,.d {ds:=[],hv:=0,Hs:=[]}] [] 0 [] (aL c1 c2 c3 c4 c4)
    ·obtain ⟨x1,c5,h22⟩:=Zaf h20;clear h20
     obtain ⟨c6,c7,c8,h23⟩:=ck3 h22;clear h22
     exact aq fol [.r [],.r [],.c false,.r [],.c false,.r [],.c false,.r [(1,{rs:=[.one (L.int .i64 x1)],m:=1})],.r [],.r [],.r [],.r [],.r [],.r [],.r [],.r [],.r []] [2,8,9,10,11,13,14,15,16] [] (aO c1 c2 c3 (Zbf.snd c5) c6 (leI 0 32) c6 (aK c7 c6 (leI 0 32) c8)) (At.loop N (At.loopN (fun y:Int×Int=>Zab.p1.S y_2 x1 hi_0 lo_1 y.1 y.2 st) (fun c J hc y h=>Zab.p1_ok (q1_2:=y.1) (rhat_3:=y.2) h hE (fun q1_2 rhat_3=>hc (q1_2,rhat_3))) N (v64 (Int.tdiv (bitsOf .or .u64 (shlOf .u64 hi_0 (v64 (x1))) (shrOf .u64 lo_1 (v64 (64-(v64 (x1)))))) (shrOf .u64 (shlOf .u64 y_2 (v64 (x1))) 32)),v64 ((bitsOf .or .u64 (shlOf .u64 hi_0 (v64 (x1))) (shrOf .u64 lo_1 (v64 (64-(v64 (x1))))))-(v64 ((v64 (Int.tdiv (bitsOf .or .u64 (shlOf .u64 hi_0 (v64 (x1))) (shrOf .u64 lo_1 (v64 (64-(v64 (x1)))))) (shrOf .u64 (shlOf .u64 y_2 (v64 (x1))) 32)))*(shrOf .u64 (shlOf .u64 y_2 (v64 (x1))) 32))))) h23))
noncomputable def Zbh.B:Code:=Tryz.f110.body.getD .skip
noncomputable def Zbh.rs (r:(List Int)×Int):List CV:=[.agg [L.arr .u64 4 r.1],.one (L.int .u64 r.2)]
noncomputable def Zbh.p1 (N:Nat) (by_1:Int) (c1_:(Int×Int×(List Int))→Option ((List Int)×Int)):(Int×Int×(List Int))→Option ((List Int)×Int):=fun (r_1,i_2,a_5)=>
 if (decide (i_2≥0))=true then
  chk (0≤i_2)<|
  chk (i_2<4)<|
  optE (Zab N r_1 (List.getD a_5 (Int.toNat i_2) 0) by_1) fun (x6,x7)=>
  c1_ (x7,w64 (i_2-1),List.set a_5 (Int.toNat i_2) x6)
 else
 some (a_5,r_1)
noncomputable def Zbh (N:Nat) (a_0_0:List Int) (by_1:Int):Option ((List Int)×Int):=
 if (by_1==0)=true then
  some (List.replicate 4 0,0)
 else
 loopN (Zbh.p1 N by_1) N (0,3,a_0_0)
noncomputable def Zbh.p1.S (by_1 r_1 i_2:Int) (a_5:List Int) (st:LL):S:=mkS 28 [(1,.one (.l (L.int .u64 by_1))),(2,.one (.adr (.site 2) 0)),(4,.one (.adr (.site 4) 0)),(6,.one (.l (L.int .u64 r_1))),(7,.one (.l (L.int .i64 i_2)))] [(2,.cells [L.arr .u64 4 a_5]),(4,.cells [L.arr .u64 4 (List.replicate 4 0)])] st
theorem Zbh.p1_ok {by_1 r_1 i_2 a_5 st r c1_ J1} (h:Zbh.p1 N by_1 c1_ (r_1,i_2,a_5)=some r) (hE:En Tryz.f110 g0 w0 (Zbh.rs r) st R) (hc1 : ∀r_1 i_2 a_5,c1_ (r_1,i_2,a_5)=some r→At g0 w0 (Zbh.p1.S by_1 r_1 i_2 a_5 st) J1):At g0 w0 (Zbh.p1.S by_1 r_1 i_2 a_5 st) (XK Tryz.prog R (.c (csub Zbh.B [1,1,1,0,1,0,0]) :: .h J1 :: [.b 0,.c (csub Zbh.B [1,1,1,1])])):=by
 unfold Zbh.p1 at h
 refine iteB h (fun c6 h1=>?_) (fun c6 h2=>?_)<;>clear h
 ·obtain ⟨c7,c8,h3⟩:=ck2 h1;clear h1
  obtain ⟨⟨x6,x7⟩,c9,h4⟩:=Zaf h3;clear h3
  exact an fol [.r [],.c true,.r [(6,{rs:=[.one (L.int .u64 x6),.one (L.int .u64 x7)],m:=1})],.r []] [1,2,4,6,7] [2,4] (aM c6 c7 c8 (Zab.snd c9) c7 c8) (hc1 x7 (w64 (i_2-1)) (List.set a_5 (Int.toNat i_2) x6) h4)
 ·obtain rfl:=Zac h2
  exact af fol hE [.r [],.c false,.r []] [] 0 [] c6
theorem Zbh.snd {a_0_0:List Int} {by_1:Int} {r:(List Int)×Int} (h:Zbh N a_0_0 by_1=some r):SndQ Tryz.prog 110 [.agg [L.arr .u64 4 a_0_0],.one (L.int .u64 by_1)] (Zbh.rs r):=fun st=>
 sO Zbh.B Tryz.func110 fun g0 w0 R hE=>by
  unfold Zbh at h
  refine iteB h (fun c1 h5=>?_) (fun c1 h6=>?_)<;>clear h
  ·obtain rfl:=Zac h5
   exact af fol hE [.r [],.r [],.c true,.r []] [] 0 [] c1
  ·exact aq fol [.r [],.r [],.c false,.r [],.r []] [1,2,4,6,7] [2,4] c1 (At.loop N (At.loopN (fun y:Int×Int×(List Int)=>Zbh.p1.S by_1 y.1 y.2.1 y.2.2 st) (fun c J hc y h=>Zbh.p1_ok (r_1:=y.1) (i_2:=y.2.1) (a_5:=y.2.2) h hE (fun r_1 i_2 a_5=>hc (r_1,i_2,a_5))) N (0,3,a_0_0) h6))
noncomputable def ZbF.B:Code:=Tryz.f136.body.getD .skip
noncomputable def ZbF.rs (r:Int×Int):List CV:=[.one (L.int .u64 r.1),.one (L.int .u64 r.2)]
noncomputable def ZbF (N:Nat) (x_0 y_1:Int):Option (Int×Int):=
 some (v64 ((v64 ((v64 ((shrOf .u64 x_0 32)*(shrOf .u64 y_1 32)))+(shrOf .u64 (v64 ((v64 ((shrOf .u64 x_0 32)*(bitsOf .and .u64 y_1 4294967295)))+(shrOf .u64 (v64 ((bitsOf .and .u64 x_0 4294967295)*(bitsOf .and .u64 y_1 4294967295))) 32))) 32)))+(shrOf .u64 (v64 ((bitsOf .and .u64 (v64 ((v64 ((shrOf .u64 x_0 32)*(bitsOf .and .u64 y_1 4294967295)))+(shrOf .u64 (v64 ((bitsOf .and .u64 x_0 4294967295)*(bitsOf .and .u64 y_1 4294967295))) 32))) 4294967295)+(v64 ((bitsOf .and .u64 x_0 4294967295)*(shrOf .u64 y_1 32))))) 32)),v64 (x_0*y_1))
theorem ZbF.snd {x_0 y_1:Int} {r:Int×Int} (h:ZbF N x_0 y_1=some r):SndQ Tryz.prog 136 [.one (L.int .u64 x_0),.one (L.int .u64 y_1)] (ZbF.rs r):=fun st=>
 sO ZbF.B Tryz.func136 fun g0 w0 R hE=>by
  unfold ZbF at h
  obtain rfl:=Zac h
  exact af fol hE [.r [],.r [],.r [],.r [],.r [],.r [],.r [],.r [],.r [],.r [],.r [],.r []] [] 0 [] (aL (leI 0 32) (leI 0 32) (leI 0 32) (leI 0 32) (leI 0 32))
noncomputable def Zbb.B:Code:=Tryz.f111.body.getD .skip
noncomputable def Zbb.rs (r:(List Int)×Bool):List CV:=[.agg [L.arr .u64 4 r.1],.one (L.bool r.2)]
noncomputable def Zbb.p1 (N:Nat) (by_1:Int) (c1_:(Int×Int×(List Int))→Option ((List Int)×Bool)):(Int×Int×(List Int))→Option ((List Int)×Bool):=fun (c_1,v2,a_7)=>
 if (decide (v2<4))=true then
  chk (0≤v2)<|
  optE (ZbF N (List.getD a_7 (Int.toNat v2) 0) by_1) fun (x8,x9)=>
  optE (Zcw N x9 c_1 0) fun (x10,x11)=>
  c1_ (v64 (x8+x11),w64 (v2+1),List.set a_7 (Int.toNat v2) x10)
 else
 some (a_7,c_1 != 0)
noncomputable def Zbb (N:Nat) (a_0_0:List Int) (by_1:Int):Option ((List Int)×Bool):=
 loopN (Zbb.p1 N by_1) N (0,0,a_0_0)
noncomputable def Zbb.p1.S (by_1 c_1 v2:Int) (a_7:List Int) (st:LL):S:=mkS 37 [(1,.one (.l (L.int .u64 by_1))),(2,.one (.adr (.site 2) 0)),(4,.one (.adr (.site 4) 0)),(6,.one (.l (L.int .u64 c_1))),(11,.one (.l (L.int .i64 v2)))] [(2,.cells [L.arr .u64 4 a_7]),(4,.cells [L.arr .u64 4 (List.replicate 4 0)])] st
theorem Zbb.p1_ok {by_1 c_1 v2 a_7 st r c1_ J1} (h:Zbb.p1 N by_1 c1_ (c_1,v2,a_7)=some r) (hE:En Tryz.f111 g0 w0 (Zbb.rs r) st R) (hc1 : ∀c_1 v2 a_7,c1_ (c_1,v2,a_7)=some r→At g0 w0 (Zbb.p1.S by_1 c_1 v2 a_7 st) J1):At g0 w0 (Zbb.p1.S by_1 c_1 v2 a_7 st) (XK Tryz.prog R (.c (csub Zbb.B [1,1,0,1,0,0]) :: .h J1 :: [.b 0,.c (csub Zbb.B [1,1,1])])):=by
 unfold Zbb.p1 at h
 refine iteB h (fun c5 h1=>?_) (fun c5 h2=>?_)<;>clear h
 ·obtain ⟨c6,h3⟩:=ZaO h1;clear h1
  obtain ⟨⟨x8,x9⟩,c7,h4⟩:=Zaf h3;clear h3
  obtain ⟨⟨x10,x11⟩,c8,h5⟩:=Zaf h4;clear h4
  exact an fol [.r [],.c true,.r [],.r [(4,{rs:=[.one (L.int .u64 x8),.one (L.int .u64 x9)],m:=1})],.r [],.r [(3,{rs:=[.one (L.int .u64 x10),.one (L.int .u64 x11)],m:=4})],.r [],.r []] [1,2,4,6,11] [2,4] (aN c5 c6 (oD c5) (ZbF.snd c7) (Zcw.snd c8) c6 (oD c5)) (hc1 (v64 (x8+x11)) (w64 (v2+1)) (List.set a_7 (Int.toNat v2) x10) h5)
 ·obtain rfl:=Zac h2
  exact af fol hE [.r [],.c false,.r []] [] 0 [] c5
theorem Zbb.snd {a_0_0:List Int} {by_1:Int} {r:(List Int)×Bool} (h:Zbb N a_0_0 by_1=some r):SndQ Tryz.prog 111 [.agg [L.arr .u64 4 a_0_0],.one (L.int .u64 by_1)] (Zbb.rs r):=fun st=>
 sO Zbb.B Tryz.func111 fun g0 w0 R hE=>by
  unfold Zbb at h
  exact aq fol [.r [],.r [],.r []] [1,2,4,6,11] [2,4] trivial (At.loop N (At.loopN (fun y:Int×Int×(List Int)=>Zbb.p1.S by_1 y.1 y.2.1 y.2.2 st) (fun c J hc y h=>Zbb.p1_ok (c_1:=y.1) (v2:=y.2.1) (a_7:=y.2.2) h hE (fun c_1 v2 a_7=>hc (c_1,v2,a_7))) N (0,0,a_0_0) h))
noncomputable def ZaA.B:Code:=Tryz.f116.body.getD .skip
noncomputable def ZaA.rs (r:Int):List CV:=[.one (L.int .i64 r)]
noncomputable def ZaA.p2 (N:Nat) (size_5 word_6:Int):Option Int:=
 some (bitsOf .or .i64 (shlOf .i64 size_5 24) word_6)
noncomputable def ZaA.p1 (N:Nat) (x1 word_4:Int):Option Int:=
 if ((bitsOf .and .i64 word_4 8388608) != 0)=true then
  ZaA.p2 N (w64 ((w64 (Int.tdiv (w64 (x1+7)) 8))+1)) (shrOf .i64 word_4 8)
 else
 ZaA.p2 N (w64 (Int.tdiv (w64 (x1+7)) 8)) word_4
noncomputable def ZaA (N:Nat) (n_0_0:List Int):Option Int:=
 optE (Zbv N n_0_0) fun x1=>
 if (decide ((w64 (Int.tdiv (w64 (x1+7)) 8))≤3))=true then
  optE (Zba N n_0_0 (w64 (8*(w64 (3-(w64 (Int.tdiv (w64 (x1+7)) 8))))))) fun x2=>
  ZaA.p1 N x1 (w64 (List.getD x2 0 0))
 else
 optE (ZaL N n_0_0 (w64 (8*(w64 ((w64 (Int.tdiv (w64 (x1+7)) 8))-3))))) fun x3=>
 ZaA.p1 N x1 (w64 (List.getD x3 0 0))
noncomputable def ZaA.p2.S (size_5 word_6:Int) (st:LL):S:=mkS 36 [(3,.one (.l (L.int .i64 size_5))),(4,.one (.l (L.int .i64 word_6)))] [] st
noncomputable def ZaA.p1.S (x1 word_4:Int) (st:LL):S:=mkS 36 [(3,.one (.l (L.int .i64 (w64 (Int.tdiv (w64 (x1+7)) 8))))),(4,.one (.l (L.int .i64 word_4)))] [] st
theorem ZaA.p2_ok {size_5 word_6 st r} (h:ZaA.p2 N size_5 word_6=some r) (hE:En Tryz.f116 g0 w0 (ZaA.rs r) st R):At g0 w0 (ZaA.p2.S size_5 word_6 st) (XK Tryz.prog R [.c (csub ZaA.B [1,1,1,1,1])]):=by
 unfold ZaA.p2 at h
 obtain rfl:=Zac h
 exact af fol hE [.r []] [] 0 [] (leI 0 24)
theorem ZaA.p1_ok {x1 word_4 st r} (h:ZaA.p1 N x1 word_4=some r) (hE:En Tryz.f116 g0 w0 (ZaA.rs r) st R):At g0 w0 (ZaA.p1.S x1 word_4 st) (XK Tryz.prog R [.c (csub ZaA.B [1,1,1,1])]):=by
 unfold ZaA.p1 at h
 refine iteB h (fun c5 h1=>?_) (fun c5 h2=>?_)<;>clear h
 ·exact aq fol [.r [],.c true,.r [],.r [],.s 1] [3,4] [] (aI c5 (leI 0 8)) (ZaA.p2_ok h1 hE)
 ·exact aq fol [.r [],.c false,.s 1] [3,4] [] c5 (ZaA.p2_ok h2 hE)
theorem ZaA.snd {n_0_0:List Int} {r:Int} (h:ZaA N n_0_0=some r):SndQ Tryz.prog 116 [.agg [L.arr .u64 4 n_0_0]] (ZaA.rs r):=fun st=>
 sO ZaA.B Tryz.func116 fun g0 w0 R hE=>by
  unfold ZaA at h
  obtain ⟨x1,c1,h3⟩:=Zaf h;clear h
  refine iteB h3 (fun c2 h4=>?_) (fun c2 h5=>?_)<;>clear h3
  ·obtain ⟨x2,c3,h6⟩:=Zaf h4;clear h4
   exact aq fol [.r [],.r [(1,{rs:=[.one (L.int .i64 x1)],m:=1})],.r [],.r [],.c true,.r [(4,{rs:=[.agg [L.arr .u64 4 x2]],m:=1})],.s 1] [3,4] [] (aM (Zbv.snd c1) (neI 8) c2 (Zba.snd c3) (leI 0 0) (ltI 0 4)) (ZaA.p1_ok h6 hE)
  ·obtain ⟨x3,c4,h7⟩:=Zaf h5;clear h5
   exact aq fol [.r [],.r [(1,{rs:=[.one (L.int .i64 x1)],m:=1})],.r [],.r [],.c false,.r [(4,{rs:=[.agg [L.arr .u64 4 x3]],m:=1})],.s 1] [3,4] [] (aM (Zbv.snd c1) (neI 8) c2 (ZaL.snd c4) (leI 0 0) (ltI 0 4)) (ZaA.p1_ok h7 hE)
noncomputable def Zbc.B:Code:=Tryz.f88.body.getD .skip
noncomputable def Zbc.rs (r:Int):List CV:=[.one (L.int .i64 r)]
noncomputable def Zbc.p1 (N:Nat) (n_17:List Int):Option Int:=
 optE (ZaA N n_17) fun x18=>
 some x18
noncomputable def Zbc (N:Nat) (p_0:Zal) (bits_1 from_2 to_3:Int):Option Int:=
 optE (ZaE N bits_1 p_0.Limit) fun (x1,x2)=>
 optE (ZbU N p_0) fun x3=>
 if (!x3)=true then
  some p_0.Limit
 else
 if (!x2)=true then
  some p_0.Limit
 else
 optE (Zcx N p_0 from_2 to_3) fun x4=>
 optE (Zbh N x1 (v64 (w64 (p_0.Interval*p_0.Spacing)))) fun (x5,x6)=>
 optE (Zbb N x5 (v64 (x4))) fun (x7,x8)=>
 chk ((v64 (w64 (p_0.Interval*p_0.Spacing)))≠0)<|
 optE (ZbC N (v64 (Int.tdiv (v64 (x6*(v64 (x4)))) (v64 (w64 (p_0.Interval*p_0.Spacing)))))) fun x9=>
 optE (ZaS N x7 x9) fun (x10,x11)=>
 optE (ZaE N p_0.Limit p_0.Limit) fun (x12,x13)=>
 if x8=true then
  some p_0.Limit
 else
 if x11=true then
  some p_0.Limit
 else
 optE (ZbL N x12 x10) fun x14=>
 if x14=true then
  some p_0.Limit
 else
 optE (ZbI N x10) fun x15=>
 if x15=true then
  optE (ZbC N 1) fun x16=>
  Zbc.p1 N x16
 else
 Zbc.p1 N x10
noncomputable def Zbc.p1.S (n_17:List Int) (st:LL):S:=mkS 94 [(15,.one (.adr (.site 15) 0))] [(15,.cells [L.arr .u64 4 n_17])] st
theorem Zbc.p1_ok {n_17 st r} (h:Zbc.p1 N n_17=some r) (hE:En Tryz.f88 g0 w0 (Zbc.rs r) st R):At g0 w0 (Zbc.p1.S n_17 st) (XK Tryz.prog R [.c (csub Zbc.B [1,1,1,1,1,1,1,1,1,1,1])]):=by
 unfold Zbc.p1 at h
 obtain ⟨x18,c19,h1⟩:=Zaf h;clear h
 obtain rfl:=Zac h1
 exact af fol hE [.r [(1,{rs:=[.one (L.int .i64 x18)],m:=1})]] [] 0 [] (ZaA.snd c19)
theorem Zbc.snd {p_0:Zal} {bits_1 from_2 to_3:Int} {r:Int} (h:Zbc N p_0 bits_1 from_2 to_3=some r):SndQ Tryz.prog 88 [.agg p_0.ls,.one (L.int .i64 bits_1),.one (L.int .i64 from_2),.one (L.int .i64 to_3)] (Zbc.rs r):=fun st=>
 sO Zbc.B Tryz.func88 fun g0 w0 R hE=>by
  unfold Zbc at h
  obtain ⟨⟨x1,x2⟩,c1,h2⟩:=Zaf h;clear h
  obtain ⟨x3,c2,h3⟩:=Zaf h2;clear h2
  refine iteB h3 (fun c3 h4=>?_) (fun c3 h5=>?_)<;>clear h3
  ·obtain rfl:=Zac h4
   exact af fol hE [.r [],.r [(3,{rs:=[.agg [L.arr .u64 4 x1],.one (L.bool x2)],m:=1})],.r [(1,{rs:=[.one (L.bool x3)],m:=1}),(4,{want:=false}),(5,{want:=false})],.c true,.r []] [] 0 [] (aM (ZaE.snd c1) (ZbU.snd c2) (not_false (ZbQ c3)) (not_false (ZbQ c3)) (not_false (ZbQ c3)) (eB true))
  ·refine iteB h5 (fun c4 h6=>?_) (fun c4 h7=>?_)<;>clear h5
   ·obtain rfl:=Zac h6
    exact af fol hE [.r [],.r [(3,{rs:=[.agg [L.arr .u64 4 x1],.one (L.bool x2)],m:=1})],.r [(1,{rs:=[.one (L.bool x3)],m:=1}),(6,{yes:=false})],.c true,.r []] [] 0 [] (aM (ZaE.snd c1) (ZbU.snd c2) (not_true (ZaH c3)) (not_true (ZaH c3)) (not_true (ZaH c3)) c4)
   ·obtain ⟨x4,c5,h8⟩:=Zaf h7;clear h7
    obtain ⟨⟨x5,x6⟩,c6,h9⟩:=Zaf h8;clear h8
    obtain ⟨⟨x7,x8⟩,c7,h10⟩:=Zaf h9;clear h9
    obtain ⟨c8,h11⟩:=ZaO h10;clear h10
    obtain ⟨x9,c9,h12⟩:=Zaf h11;clear h11
    obtain ⟨⟨x10,x11⟩,c10,h13⟩:=Zaf h12;clear h12
    obtain ⟨⟨x12,x13⟩,c11,h14⟩:=Zaf h13;clear h13
    refine iteB h14 (fun c12 h15=>?_) (fun c12 h16=>?_)<;>clear h14
    ·obtain rfl:=Zac h15
     exact afd fol hE [.r [],.r [(3,{rs:=[.agg [L.arr .u64 4 x1],.one (L.bool x2)],m:=1})],.r [(1,{rs:=[.one (L.bool x3)],m:=1}),(6,{yes:=false})],.c false,.r [],.r [(3,{rs:=[.one (L.int .i64 x4)],m:=1})],.r [(2,{rs:=[.agg [L.arr .u64 4 x5],.one (L.int .u64 x6)],m:=1})],.r [(2,{rs:=[.agg [L.arr .u64 4 x7],.one (L.bool x8)],m:=1})],.d {ds:=[(6,{rs:=[.agg [L.arr .u64 4 x9]],m:=1}),(7,{rs:=[.agg [L.arr .u64 4 x10],.one (L.bool x11)],m:=1})],hv:=2048,Hs:=[2048]},.r [(4,{rs:=[.agg [L.arr .u64 4 x12],.one (L.bool x13)],m:=1})],.r [(2,{want:=false}),(5,{want:=false}),(6,{want:=false}),(7,{want:=false})],.c true,.r []] [] 0 [] (aO (ZaE.snd c1) (ZbU.snd c2) (not_true (ZaH c3)) (not_true (ZaH c3)) (not_true (ZaH c3)) c4 (Zcx.snd c5) (aO (Zbh.snd c6) (Zbb.snd c7) c8 (ZbC.snd c9) (ZaS.snd c10) (ZaE.snd c11) c12 (aM c12 (eB true) (eB true) (eB true) (eB true) (eB true))))
    ·refine iteB h16 (fun c13 h17=>?_) (fun c13 h18=>?_)<;>clear h16
     ·obtain rfl:=Zac h17
      exact afd fol hE [.r [],.r [(3,{rs:=[.agg [L.arr .u64 4 x1],.one (L.bool x2)],m:=1})],.r [(1,{rs:=[.one (L.bool x3)],m:=1}),(6,{yes:=false})],.c false,.r [],.r [(3,{rs:=[.one (L.int .i64 x4)],m:=1})],.r [(2,{rs:=[.agg [L.arr .u64 4 x5],.one (L.int .u64 x6)],m:=1})],.r [(2,{rs:=[.agg [L.arr .u64 4 x7],.one (L.bool x8)],m:=1})],.d {ds:=[(6,{rs:=[.agg [L.arr .u64 4 x9]],m:=1}),(7,{rs:=[.agg [L.arr .u64 4 x10],.one (L.bool x11)],m:=1})],hv:=2048,Hs:=[2048]},.r [(4,{rs:=[.agg [L.arr .u64 4 x12],.one (L.bool x13)],m:=1})],.r [(3,{yes:=false}),(5,{want:=false}),(6,{want:=false}),(7,{want:=false})],.c true,.r []] [] 0 [] (aO (ZaE.snd c1) (ZbU.snd c2) (not_true (ZaH c3)) (not_true (ZaH c3)) (not_true (ZaH c3)) c4 (Zcx.snd c5) (aO (Zbh.snd c6) (Zbb.snd c7) c8 (ZbC.snd c9) (ZaS.snd c10) (ZaE.snd c11) c12 (aM c12 c13 c13 c13 c13 (eB true))))
     ·obtain ⟨x14,c14,h19⟩:=Zaf h18;clear h18
      refine iteB h19 (fun c15 h20=>?_) (fun c15 h21=>?_)<;>clear h19
      ·obtain rfl:=Zac h20
       exact afd fol hE [.r [],.r [(3,{rs:=[.agg [L.arr .u64 4 x1],.one (L.bool x2)],m:=1})],.r [(1,{rs:=[.one (L.bool x3)],m:=1}),(6,{yes:=false})],.c false,.r [],.r [(3,{rs:=[.one (L.int .i64 x4)],m:=1})],.r [(2,{rs:=[.agg [L.arr .u64 4 x5],.one (L.int .u64 x6)],m:=1})],.r [(2,{rs:=[.agg [L.arr .u64 4 x7],.one (L.bool x8)],m:=1})],.d {ds:=[(6,{rs:=[.agg [L.arr .u64 4 x9]],m:=1}),(7,{rs:=[.agg [L.arr .u64 4 x10],.one (L.bool x11)],m:=1})],hv:=2048,Hs:=[2048]},.r [(4,{rs:=[.agg [L.arr .u64 4 x12],.one (L.bool x13)],m:=1})],.r [(3,{yes:=false}),(7,{rs:=[.one (L.bool x14)],m:=1}),(8,{yes:=false})],.c true,.r []] [] 0 [] (aO (ZaE.snd c1) (ZbU.snd c2) (not_true (ZaH c3)) (not_true (ZaH c3)) (not_true (ZaH c3)) c4 (Zcx.snd c5) (aO (Zbh.snd c6) (Zbb.snd c7) c8 (ZbC.snd c9) (ZaS.snd c10) (ZaE.snd c11) c12 (aN c12 c13 c13 c13 (ZbL.snd c14) c13 c15)))
      ·obtain ⟨x15,c16,h22⟩:=Zaf h21;clear h21
       refine iteB h22 (fun c17 h23=>?_) (fun c17 h24=>?_)<;>clear h22
       ·obtain ⟨x16,c18,h25⟩:=Zaf h23;clear h23
        exact aqd fol [.r [],.r [(3,{rs:=[.agg [L.arr .u64 4 x1],.one (L.bool x2)],m:=1})],.r [(1,{rs:=[.one (L.bool x3)],m:=1}),(6,{yes:=false})],.c false,.r [],.r [(3,{rs:=[.one (L.int .i64 x4)],m:=1})],.r [(2,{rs:=[.agg [L.arr .u64 4 x5],.one (L.int .u64 x6)],m:=1})],.r [(2,{rs:=[.agg [L.arr .u64 4 x7],.one (L.bool x8)],m:=1})],.d {ds:=[(6,{rs:=[.agg [L.arr .u64 4 x9]],m:=1}),(7,{rs:=[.agg [L.arr .u64 4 x10],.one (L.bool x11)],m:=1})],hv:=2048,Hs:=[2048]},.r [(4,{rs:=[.agg [L.arr .u64 4 x12],.one (L.bool x13)],m:=1})],.r [(3,{yes:=false}),(7,{rs:=[.one (L.bool x14)],m:=1}),(8,{yes:=false})],.c false,.r [(1,{rs:=[.one (L.bool x15)],m:=1})],.c true,.r [(0,{rs:=[.agg [L.arr .u64 4 x16]],m:=1})],.s 1] [15] [15] (aO (ZaE.snd c1) (ZbU.snd c2) (not_true (ZaH c3)) (not_true (ZaH c3)) (not_true (ZaH c3)) c4 (Zcx.snd c5) (aO (Zbh.snd c6) (Zbb.snd c7) c8 (ZbC.snd c9) (ZaS.snd c10) (ZaE.snd c11) c12 (aO c12 c13 c13 c13 (ZbL.snd c14) c13 c15 (aJ (ZbI.snd c16) c17 (ZbC.snd c18))))) (Zbc.p1_ok h25 hE)
       ·exact aqd fol [.r [],.r [(3,{rs:=[.agg [L.arr .u64 4 x1],.one (L.bool x2)],m:=1})],.r [(1,{rs:=[.one (L.bool x3)],m:=1}),(6,{yes:=false})],.c false,.r [],.r [(3,{rs:=[.one (L.int .i64 x4)],m:=1})],.r [(2,{rs:=[.agg [L.arr .u64 4 x5],.one (L.int .u64 x6)],m:=1})],.r [(2,{rs:=[.agg [L.arr .u64 4 x7],.one (L.bool x8)],m:=1})],.d {ds:=[(6,{rs:=[.agg [L.arr .u64 4 x9]],m:=1}),(7,{rs:=[.agg [L.arr .u64 4 x10],.one (L.bool x11)],m:=1})],hv:=2048,Hs:=[2048]},.r [(4,{rs:=[.agg [L.arr .u64 4 x12],.one (L.bool x13)],m:=1})],.r [(3,{yes:=false}),(7,{rs:=[.one (L.bool x14)],m:=1}),(8,{yes:=false})],.c false,.r [(1,{rs:=[.one (L.bool x15)],m:=1})],.c false,.s 1] [15] [15] (aO (ZaE.snd c1) (ZbU.snd c2) (not_true (ZaH c3)) (not_true (ZaH c3)) (not_true (ZaH c3)) c4 (Zcx.snd c5) (aO (Zbh.snd c6) (Zbb.snd c7) c8 (ZbC.snd c9) (ZaS.snd c10) (ZaE.snd c11) c12 (aO c12 c13 c13 c13 (ZbL.snd c14) c13 c15 (aI (ZbI.snd c16) c17)))) (Zbc.p1_ok h24 hE)
noncomputable def Zcm.B:Code:=Tryz.f54.body.getD .skip
noncomputable def Zcm.rs (r:Int):List CV:=[.one (L.int .i64 r)]
noncomputable def Zcm (N:Nat) (p_0:Zal) (at_1:Zcp) (time_2:Int):Option Int:=
 if (decide (at_1.Height≤0))=true then
  some p_0.Limit
 else
 optE (ZbE N p_0 at_1.Height) fun x1=>
 if x1=true then
  optE (Zbc N p_0 at_1.Bits at_1.First at_1.Time) fun x2=>
  some x2
 else
 if (!p_0.Easy)=true then
  some at_1.Bits
 else
 if (decide ((w64 (time_2-at_1.Time))>(w64 (2*p_0.Spacing))))=true then
  some p_0.Limit
 else
 some at_1.Hard
theorem Zcm.snd {p_0:Zal} {at_1:Zcp} {time_2:Int} {r:Int} (h:Zcm N p_0 at_1 time_2=some r):SndQ Tryz.prog 54 [.agg p_0.ls,.agg at_1.ls,.one (L.int .i64 time_2)] (Zcm.rs r):=fun st=>
 sO Zcm.B Tryz.func54 fun g0 w0 R hE=>by
  unfold Zcm at h
  refine iteB h (fun c1 h1=>?_) (fun c1 h2=>?_)<;>clear h
  ·obtain rfl:=Zac h1
   exact af fol hE [.r [],.r [],.c true,.r []] [] 0 [] c1
  ·obtain ⟨x1,c2,h3⟩:=Zaf h2;clear h2
   refine iteB h3 (fun c3 h4=>?_) (fun c3 h5=>?_)<;>clear h3
   ·obtain ⟨x2,c4,h6⟩:=Zaf h4;clear h4
    obtain rfl:=Zac h6
    exact af fol hE [.r [],.r [],.c false,.r [(3,{rs:=[.one (L.bool x1)],m:=1})],.c true,.r [(7,{rs:=[.one (L.int .i64 x2)],m:=1})]] [] 0 [] (aK c1 (ZbE.snd c2) c3 (Zbc.snd c4))
   ·refine iteB h5 (fun c5 h7=>?_) (fun c5 h8=>?_)<;>clear h5
    ·obtain rfl:=Zac h7
     exact af fol hE [.r [],.r [],.c false,.r [(3,{rs:=[.one (L.bool x1)],m:=1})],.c false,.r [],.c true,.r []] [] 0 [] (aK c1 (ZbE.snd c2) c3 c5)
    ·refine iteB h8 (fun c6 h9=>?_) (fun c6 h10=>?_)<;>clear h8
     ·obtain rfl:=Zac h9
      exact af fol hE [.r [],.r [],.c false,.r [(3,{rs:=[.one (L.bool x1)],m:=1})],.c false,.r [],.c false,.r [],.c true,.r []] [] 0 [] (aL c1 (ZbE.snd c2) c3 c5 c6)
     ·obtain rfl:=Zac h10
      exact af fol hE [.r [],.r [],.c false,.r [(3,{rs:=[.one (L.bool x1)],m:=1})],.c false,.r [],.c false,.r [],.c false,.r []] [] 0 [] (aL c1 (ZbE.snd c2) c3 c5 c6)
noncomputable def ZaW.B:Code:=Tryz.f118.body.getD .skip
noncomputable def ZaW.rs (r:(List Int)):List CV:=[.agg [L.arr .u64 4 r]]
noncomputable def ZaW.p1 (N:Nat) (h_0_0:List Int) (c1_:(Int×(List Int))→Option (List Int)):(Int×(List Int))→Option (List Int):=fun (v1,out_2)=>
 if (decide (v1<32))=true then
  chk (0≤v1)<|
  chk (0≤(w64 (Int.tdiv v1 8)))<|
  chk ((w64 (Int.tdiv v1 8))<4)<|
  chk (0≤(w64 (8*(Int.tmod v1 8))))<|
  c1_ (w64 (v1+1),List.set out_2 (Int.toNat (w64 (Int.tdiv v1 8))) (bitsOf .or .u64 (List.getD out_2 (Int.toNat (w64 (Int.tdiv v1 8))) 0) (shlOf .u64 (v64 (List.getD h_0_0 (Int.toNat v1) 0)) (w64 (8*(Int.tmod v1 8))))))
 else
 some out_2
noncomputable def ZaW (N:Nat) (h_0_0:List Int):Option (List Int):=
 loopN (ZaW.p1 N h_0_0) N (0,List.replicate 4 0)
noncomputable def ZaW.p1.S (h_0_0:List Int) (v1:Int) (out_2:List Int) (st:LL):S:=mkS 25 [(2,.one (.adr (.site 2) 0)),(3,.one (.adr (.site 3) 0)),(6,.agg [.l (L.arr .u8 32 h_0_0)]),(7,.one (.l (L.int .i64 v1)))] [(2,.cells [L.arr .u64 4 (List.replicate 4 0)]),(3,.cells [L.arr .u64 4 out_2])] st
theorem ZaW.p1_ok {h_0_0 v1 out_2 st r c1_ J1} (h:ZaW.p1 N h_0_0 c1_ (v1,out_2)=some r) (hE:En Tryz.f118 g0 w0 (ZaW.rs r) st R) (hc1 : ∀v1 out_2,c1_ (v1,out_2)=some r→At g0 w0 (ZaW.p1.S h_0_0 v1 out_2 st) J1):At g0 w0 (ZaW.p1.S h_0_0 v1 out_2 st) (XK Tryz.prog R (.c (csub ZaW.B [1,1,0,1,0,0]) :: .h J1 :: [.b 0,.c (csub ZaW.B [1,1,1])])):=by
 unfold ZaW.p1 at h
 refine iteB h (fun c6 h1=>?_) (fun c6 h2=>?_)<;>clear h
 ·obtain ⟨c7,c8,c9,c10,h3⟩:=ck4 h1;clear h1
  exact and_ fol [.r [],.c true,.r [],.d {ds:=[],hv:=4096,Hs:=[4096]},.r []] [2,3,6,7] [2,3] (aO c6 c7 (oD c6) (neI 8) c8 c9 (neI 8) (aJ c10 c8 c9)) (hc1 (w64 (v1+1)) (List.set out_2 (Int.toNat (w64 (Int.tdiv v1 8))) (bitsOf .or .u64 (List.getD out_2 (Int.toNat (w64 (Int.tdiv v1 8))) 0) (shlOf .u64 (v64 (List.getD h_0_0 (Int.toNat v1) 0)) (w64 (8*(Int.tmod v1 8)))))) h3)
 ·obtain rfl:=Zac h2
  exact af fol hE [.r [],.c false,.r []] [] 0 [] c6
theorem ZaW.snd {h_0_0:List Int} {r:(List Int)} (h:ZaW N h_0_0=some r):SndQ Tryz.prog 118 [.agg [L.arr .u8 32 h_0_0]] (ZaW.rs r):=fun st=>
 sO ZaW.B Tryz.func118 fun g0 w0 R hE=>by
  unfold ZaW at h
  exact aq fol [.r [],.r [],.r []] [2,3,6,7] [2,3] trivial (At.loop N (At.loopN (fun y:Int×(List Int)=>ZaW.p1.S h_0_0 y.1 y.2 st) (fun c J hc y h=>ZaW.p1_ok (v1:=y.1) (out_2:=y.2) h hE (fun v1 out_2=>hc (v1,out_2))) N (0,List.replicate 4 0) h))
noncomputable def ZbV.B:Code:=Tryz.f90.body.getD .skip
noncomputable def ZbV.rs (r:Bool):List CV:=[.one (L.bool r)]
noncomputable def ZbV (N:Nat) (h_0_0 target_1_0:List Int):Option Bool:=
 optE (ZaW N h_0_0) fun x1=>
 optE (ZbL N target_1_0 x1) fun x2=>
 some (!x2)
theorem ZbV.snd {h_0_0 target_1_0:List Int} {r:Bool} (h:ZbV N h_0_0 target_1_0=some r):SndQ Tryz.prog 90 [.agg [L.arr .u8 32 h_0_0],.agg [L.arr .u64 4 target_1_0]] (ZbV.rs r):=fun st=>
 sO ZbV.B Tryz.func90 fun g0 w0 R hE=>by
  unfold ZbV at h
  obtain ⟨x1,c1,h1⟩:=Zaf h;clear h
  obtain ⟨x2,c2,h2⟩:=Zaf h1;clear h1
  obtain rfl:=Zac h2
  exact afd fol hE [.r [],.d {ds:=[(2,{rs:=[.agg [L.arr .u64 4 x1]],m:=1}),(3,{rs:=[.one (L.bool x2)],m:=1})],hv:=0,Hs:=[]}] [] 0 [] (aI (ZaW.snd c1) (ZbL.snd c2))
noncomputable def ZbR.B:Code:=Tryz.f55.body.getD .skip
noncomputable def ZbR.rs (r:Int):List CV:=[.one (L.int .i64 r)]
noncomputable def ZbR (N:Nat) (p_0:Zal) (h_1:Zam):Option Int:=
 optE (ZaR N h_1) fun x1=>
 if (!x1)=true then
  some 1
 else
 optE (ZaE N h_1.Bits p_0.Limit) fun (x2,x3)=>
 if (!x3)=true then
  some 4
 else
 optE (Zci N h_1) fun x4=>
 optE (ZbV N x4 x2) fun x5=>
 if (!x5)=true then
  some 4
 else
 some 0
theorem ZbR.snd {p_0:Zal} {h_1:Zam} {r:Int} (h:ZbR N p_0 h_1=some r):SndQ Tryz.prog 55 [.agg p_0.ls,.agg h_1.ls] (ZbR.rs r):=fun st=>
 sO ZbR.B Tryz.func55 fun g0 w0 R hE=>by
  unfold ZbR at h
  obtain ⟨x1,c1,h1⟩:=Zaf h;clear h
  refine iteB h1 (fun c2 h2=>?_) (fun c2 h3=>?_)<;>clear h1
  ·obtain rfl:=Zac h2
   exact af fol hE [.r [],.r [(1,{rs:=[.one (L.bool x1)],m:=1})],.c true,.r []] [] 0 [] (aI (ZaR.snd c1) c2)
  ·obtain ⟨⟨x2,x3⟩,c3,h4⟩:=Zaf h3;clear h3
   refine iteB h4 (fun c4 h5=>?_) (fun c4 h6=>?_)<;>clear h4
   ·obtain rfl:=Zac h5
    exact afd fol hE [.r [],.r [(1,{rs:=[.one (L.bool x1)],m:=1})],.c false,.r [(4,{rs:=[.agg [L.arr .u64 4 x2],.one (L.bool x3)],m:=1})],.d {ds:=[(3,{want:=false}),(4,{want:=false}),(5,{want:=false}),(6,{want:=false}),(7,{want:=false})],hv:=0,Hs:=[]},.c true,.r []] [] 0 [] (aO (ZaR.snd c1) c2 (ZaE.snd c3) (not_false (ZbQ c4)) (not_false (ZbQ c4)) (not_false (ZbQ c4)) (not_false (ZbQ c4)) (aJ (not_false (ZbQ c4)) (not_false (ZbQ c4)) (eB true)))
   ·obtain ⟨x4,c5,h7⟩:=Zaf h6;clear h6
    obtain ⟨x5,c6,h8⟩:=Zaf h7;clear h7
    refine iteB h8 (fun c7 h9=>?_) (fun c7 h10=>?_)<;>clear h8
    ·obtain rfl:=Zac h9
     exact afd fol hE [.r [],.r [(1,{rs:=[.one (L.bool x1)],m:=1})],.c false,.r [(4,{rs:=[.agg [L.arr .u64 4 x2],.one (L.bool x3)],m:=1})],.d {ds:=[(4,{rs:=[.agg [L.arr .u8 32 x4]],m:=1}),(6,{rs:=[.one (L.bool x5)],m:=1}),(8,{yes:=false})],hv:=0,Hs:=[]},.c true,.r []] [] 0 [] (aO (ZaR.snd c1) c2 (ZaE.snd c3) (not_true (ZaH c4)) (not_true (ZaH c4)) (Zci.snd c5) (not_true (ZaH c4)) (aL (not_true (ZaH c4)) (ZbV.snd c6) (not_true (ZaH c4)) (not_true (ZaH c4)) c7))
    ·obtain rfl:=Zac h10
     exact afd fol hE [.r [],.r [(1,{rs:=[.one (L.bool x1)],m:=1})],.c false,.r [(4,{rs:=[.agg [L.arr .u64 4 x2],.one (L.bool x3)],m:=1})],.d {ds:=[(4,{rs:=[.agg [L.arr .u8 32 x4]],m:=1}),(6,{rs:=[.one (L.bool x5)],m:=1}),(8,{yes:=false})],hv:=0,Hs:=[]},.c false,.r []] [] 0 [] (aO (ZaR.snd c1) c2 (ZaE.snd c3) (not_true (ZaH c4)) (not_true (ZaH c4)) (Zci.snd c5) (not_true (ZaH c4)) (aL (not_true (ZaH c4)) (ZbV.snd c6) (not_true (ZaH c4)) (not_true (ZaH c4)) c7))
noncomputable def ZcK.B:Code:=Tryz.f91.body.getD .skip
noncomputable def ZcK.rs (r:Int):List CV:=[.one (L.int .i64 r)]
noncomputable def ZcK (N:Nat) (times_0:LL):Option Int:=
 chk (0≤(if (11:Int)<(len times_0) then 11 else (len times_0)))<|
 chk ((Int.toNat (if (11:Int)<(len times_0) then 11 else (len times_0)))≤(List.length times_0))<|
 optE (ZaX N (List.take (Int.toNat (if (11:Int)<(len times_0) then 11 else (len times_0))) (List.drop 0 times_0))) fun x1=>
 if ((len x1)==0)=true then
  some 0
 else
 chk (isI x1=true)<|
 chk (List.length x1<4611686018427387904)<|
 chk (0≤(w64 (Int.tdiv (len x1) 2)))<|
 chk ((w64 (Int.tdiv (len x1) 2))<(len x1))<|
 getE ((sortR x1)[0+(Int.toNat (w64 (Int.tdiv (len x1) 2)))]?) Zdg fun x2=>
 some x2
theorem ZcK.snd {times_0:LL} {r:Int} (h:ZcK N times_0=some r):SndQ Tryz.prog 91 [.one (L.sl 1 times_0)] (ZcK.rs r):=fun st=>
 sO ZcK.B Tryz.func91 fun g0 w0 R hE=>by
  unfold ZcK at h
  obtain ⟨c1,c2,h1⟩:=ck2 h;clear h
  obtain ⟨x1,c3,h2⟩:=Zaf h1;clear h1
  refine iteB h2 (fun c4 h3=>?_) (fun c4 h4=>?_)<;>clear h2
  ·obtain rfl:=Zac h3
   exact af fol hE [.r [],.r [(5,{rs:=[.row true 1 x1],ns:=[9],m:=1})],.r [],.c true,.r []] [] 0 [] (aL c1 (Nat.zero_le (Int.toNat (if (11:Int)<(len times_0) then 11 else (len times_0)))) c2 (ZaX.snd c3) c4)
  ·obtain ⟨c5,c6,c7,c8,h5⟩:=ck4 h4;clear h4
   obtain ⟨x2,c9,h6⟩:=ZdI h5;clear h5
   obtain rfl:=Zac h6
   exact af fol hE [.r [],.r [(5,{rs:=[.row true 1 x1],ns:=[9],m:=1})],.r [],.c false,.r [(1,{m:=7})],.r [(5,{oe:=[L.int .i64 x2]})]] [] 0 [] (aO c1 (Nat.zero_le (Int.toNat (if (11:Int)<(len times_0) then 11 else (len times_0)))) c2 (ZaX.snd c3) c4 z0 (@rfl _ (List.length x1):(List.length x1)=(List.length x1)) (aN c5 c6 slices_Sort_int.snd (neI 2) c7 c8 c9))
noncomputable def ZbO.B:Code:=Tryz.f56.body.getD .skip
noncomputable def ZbO.rs (r:Bool):List CV:=[.one (L.bool r)]
noncomputable def ZbO (N:Nat) (time_0:Int) (times_1:LL):Option Bool:=
 if ((len times_1)==0)=true then
  some true
 else
 optE (ZcK N times_1) fun x1=>
 some (decide (time_0>x1))
theorem ZbO.snd {time_0:Int} {times_1:LL} {r:Bool} (h:ZbO N time_0 times_1=some r):SndQ Tryz.prog 56 [.one (L.int .i64 time_0),.one (L.sl 1 times_1)] (ZbO.rs r):=fun st=>
 sO ZbO.B Tryz.func56 fun g0 w0 R hE=>by
  unfold ZbO at h
  refine iteB h (fun c1 h1=>?_) (fun c1 h2=>?_)<;>clear h
  ·obtain rfl:=Zac h1
   exact af fol hE [.r [],.r [(4,{want:=false}),(5,{want:=false}),(6,{want:=false}),(7,{want:=false})]] [] 0 [] (aL c1 c1 c1 c1 c1)
  ·obtain ⟨x1,c2,h3⟩:=Zaf h2;clear h2
   obtain rfl:=Zac h3
   exact af fol hE [.r [],.r [(6,{rs:=[.one (L.int .i64 x1)],m:=1}),(8,{yes:=false})]] [] 0 [] (aM c1 c1 c1 (ZcK.snd c2) c1 c1)
noncomputable def Zcc.B:Code:=Tryz.f57.body.getD .skip
noncomputable def Zcc.rs (r:Bool):List CV:=[.one (L.bool r)]
noncomputable def Zcc (N:Nat) (time_0 now_1 future_2:Int):Option Bool:=
 if (decide (future_2≥0))=true then
  if (decide (time_0≤now_1))=true then
   some true
  else
  some (decide ((w64 (time_0-now_1))≤future_2))
 else
 some false
theorem Zcc.snd {time_0 now_1 future_2:Int} {r:Bool} (h:Zcc N time_0 now_1 future_2=some r):SndQ Tryz.prog 57 [.one (L.int .i64 time_0),.one (L.int .i64 now_1),.one (L.int .i64 future_2)] (Zcc.rs r):=fun st=>
 sO Zcc.B Tryz.func57 fun g0 w0 R hE=>by
  unfold Zcc at h
  refine iteB h (fun c1 h1=>?_) (fun c1 h2=>?_)<;>clear h
  ·refine iteB h1 (fun c2 h3=>?_) (fun c2 h4=>?_)<;>clear h1
   ·obtain rfl:=Zac h3
    exact af fol hE [.r [],.r [(7,{want:=false}),(8,{want:=false}),(9,{want:=false}),(10,{want:=false}),(11,{want:=false})]] [] 0 [] (aO c1 c1 c1 c1 c2 c2 c2 (aL c2 c2 c1 c2 c1))
   ·obtain rfl:=Zac h4
    exact af fol hE [.r [],.r [(12,{yes:=false})]] [] 0 [] (aO c1 c1 c1 c1 c2 c2 c2 (aL c2 c2 c1 c2 c1))
  ·obtain rfl:=Zac h2
   exact af fol hE [.r [],.r [(3,{want:=false}),(4,{want:=false}),(5,{want:=false}),(6,{want:=false}),(12,{want:=false}),(13,{yes:=false})]] [] 0 [] (aM c1 c1 c1 c1 c1 c1)
noncomputable def ZaF.B:Code:=Tryz.f58.body.getD .skip
noncomputable def ZaF.rs (r:Int):List CV:=[.one (L.int .i64 r)]
noncomputable def ZaF.p2 (N:Nat) (c1_:(Int×Int)→Option Int) (height_0 least_4:Int) (gates_1:LL) (v2:Int):Option Int:=
 c1_ (least_4,w64 (v2+1))
noncomputable def ZaF.p1 (N:Nat) (height_0:Int) (gates_1:LL) (c1_:(Int×Int)→Option Int):(Int×Int)→Option Int:=fun (least_1,v2)=>
 if (decide (v2<(len gates_1)))=true then
  chk (0≤v2)<|
  getE (gates_1[Int.toNat v2]?) ZcN fun x3=>
  if (decide (height_0≥x3.Height))=true then
   ZaF.p2 N c1_ height_0 (if x3.Version>least_1 then x3.Version else least_1) gates_1 v2
  else
  ZaF.p2 N c1_ height_0 least_1 gates_1 v2
 else
 some least_1
noncomputable def ZaF (N:Nat) (height_0:Int) (gates_1:LL):Option Int:=
 loopN (ZaF.p1 N height_0 gates_1) N ((-2147483648),0)
noncomputable def ZaF.p2.S (height_0 least_4:Int) (gates_1:LL) (v2:Int) (st:LL):S:=mkS 24 [(0,.one (.l (L.int .i64 height_0))),(5,.one (.l (L.int .i64 least_4))),(8,.one (.l (L.sl 2 gates_1))),(9,.one (.l (L.int .i64 (len gates_1)))),(10,.one (.l (L.int .i64 v2)))] [] st
noncomputable def ZaF.p1.S (height_0 least_1:Int) (gates_1:LL) (v2:Int) (st:LL):S:=mkS 24 [(0,.one (.l (L.int .i64 height_0))),(5,.one (.l (L.int .i64 least_1))),(8,.one (.l (L.sl 2 gates_1))),(9,.one (.l (L.int .i64 (len gates_1)))),(10,.one (.l (L.int .i64 v2)))] [] st
theorem ZaF.p2_ok {height_0 least_4 gates_1 v2 st r c1_ J1} (h:ZaF.p2 N c1_ height_0 least_4 gates_1 v2=some r) (hE:En Tryz.f58 g0 w0 (ZaF.rs r) st R) (hc1 : ∀least_1 v2,c1_ (least_1,v2)=some r→At g0 w0 (ZaF.p1.S height_0 least_1 gates_1 v2 st) J1):At g0 w0 (ZaF.p2.S height_0 least_4 gates_1 v2 st) (XK Tryz.prog R [.c (csub ZaF.B [1,1,0,1,0,0,1,1,1]),.h J1,.b 0,.c (csub ZaF.B [1,1,1])]):=by
 unfold ZaF.p2 at h
 exact an fol [.r []] [0,5,8,9,10] [] trivial (hc1 least_4 (w64 (v2+1)) h)
theorem ZaF.p1_ok {height_0 least_1 gates_1 v2 st r c1_ J1} (h:ZaF.p1 N height_0 gates_1 c1_ (least_1,v2)=some r) (hE:En Tryz.f58 g0 w0 (ZaF.rs r) st R) (hc1 : ∀least_1 v2,c1_ (least_1,v2)=some r→At g0 w0 (ZaF.p1.S height_0 least_1 gates_1 v2 st) J1):At g0 w0 (ZaF.p1.S height_0 least_1 gates_1 v2 st) (XK Tryz.prog R (.c (csub ZaF.B [1,1,0,1,0,0]) :: .h J1 :: [.b 0,.c (csub ZaF.B [1,1,1])])):=by
 unfold ZaF.p1 at h
 refine iteB h (fun c1 h1=>?_) (fun c1 h2=>?_)<;>clear h
 ·obtain ⟨c2,h3⟩:=ZaO h1;clear h1
  obtain ⟨x3,c3,h4⟩:=ZcX h3;clear h3
  refine iteB h4 (fun c4 h5=>?_) (fun c4 h6=>?_)<;>clear h4
  ·exact aq fol [.r [],.c true,.r [(1,{oe:=x3.ls})],.r [],.c true,.r [],.s 4] [0,5,8,9,10] [] (aL c1 c2 (oD c1) c3 c4) (ZaF.p2_ok h5 hE hc1)
  ·exact aq fol [.r [],.c true,.r [(1,{oe:=x3.ls})],.r [],.c false,.s 4] [0,5,8,9,10] [] (aL c1 c2 (oD c1) c3 c4) (ZaF.p2_ok h6 hE hc1)
 ·obtain rfl:=Zac h2
  exact af fol hE [.r [],.c false,.r []] [] 0 [] c1
theorem ZaF.snd {height_0:Int} {gates_1:LL} {r:Int} (h:ZaF N height_0 gates_1=some r):SndQ Tryz.prog 58 [.one (L.int .i64 height_0),.one (L.sl 2 gates_1)] (ZaF.rs r):=fun st=>
 sO ZaF.B Tryz.func58 fun g0 w0 R hE=>by
  unfold ZaF at h
  exact aq fol [.r [],.r [],.r []] [0,5,8,9,10] [] trivial (At.loop N (At.loopN (fun y:Int×Int=>ZaF.p1.S height_0 y.1 gates_1 y.2 st) (fun c J hc y h=>ZaF.p1_ok (least_1:=y.1) (v2:=y.2) h hE (fun least_1 v2=>hc (least_1,v2))) N ((-2147483648),0) h))
noncomputable def Zbg.B:Code:=Tryz.f59.body.getD .skip
noncomputable def Zbg.rs (r:Bool):List CV:=[.one (L.bool r)]
noncomputable def Zbg.p1 (N:Nat) (height_0:Int) (checks_2:LL) (id_1_0:List Int) (c1_:Int→Option Bool):Int→Option Bool:=fun v1=>
 if (decide (v1<(len checks_2)))=true then
  chk (0≤v1)<|
  getE (checks_2[Int.toNat v1]?) ZcE fun x2=>
  if (x2.Height==height_0)=true then
   if (!(x2.Id==id_1_0))=true then
    some false
   else
   c1_ (w64 (v1+1))
  else
  c1_ (w64 (v1+1))
 else
 some true
noncomputable def Zbg (N:Nat) (height_0:Int) (id_1_0:List Int) (checks_2:LL):Option Bool:=
 loopN (Zbg.p1 N height_0 checks_2 id_1_0) N 0
noncomputable def Zbg.p1.S (height_0:Int) (checks_2:LL) (v1:Int) (id_1_0:List Int) (st:LL):S:=mkS 26 [(0,.one (.l (L.int .i64 height_0))),(4,.one (.adr (.site 4) 0)),(9,.one (.l (L.sl 33 checks_2))),(10,.one (.l (L.int .i64 (len checks_2)))),(11,.one (.l (L.int .i64 v1)))] [(4,.cells [L.arr .u8 32 id_1_0])] st
theorem Zbg.p1_ok {height_0 checks_2 v1 id_1_0 st r c1_ J1} (h:Zbg.p1 N height_0 checks_2 id_1_0 c1_ v1=some r) (hE:En Tryz.f59 g0 w0 (Zbg.rs r) st R) (hc1 : ∀v1,c1_ v1=some r→At g0 w0 (Zbg.p1.S height_0 checks_2 v1 id_1_0 st) J1):At g0 w0 (Zbg.p1.S height_0 checks_2 v1 id_1_0 st) (XK Tryz.prog R (.c (csub Zbg.B [1,0,1,0,0]) :: .h J1 :: [.b 0,.c (csub Zbg.B [1,1])])):=by
 unfold Zbg.p1 at h
 refine iteB h (fun c1 h1=>?_) (fun c1 h2=>?_)<;>clear h
 ·obtain ⟨c2,h3⟩:=ZaO h1;clear h1
  obtain ⟨x2,c3,h4⟩:=ZcT h3;clear h3
  refine iteB h4 (fun c4 h5=>?_) (fun c4 h6=>?_)<;>clear h4
  ·refine iteB h5 (fun c5 h7=>?_) (fun c5 h8=>?_)<;>clear h5
   ·obtain rfl:=Zac h7
    exact af fol hE [.r [],.c true,.r [(1,{oe:=x2.ls})],.r [],.c true,.r []] [] 0 [] (aO c1 c2 (oD c1) c3 c4 c4 c4 (aJ c4 c4 c5))
   ·exact an fol [.r [],.c true,.r [(1,{oe:=x2.ls})],.r [],.c false,.r []] [0,4,9,10,11] [4] (aO c1 c2 (oD c1) c3 c4 c4 c4 (aJ c4 c4 c5)) (hc1 (w64 (v1+1)) h8)
  ·exact an fol [.r [],.c true,.r [(1,{oe:=x2.ls})],.r [(5,{want:=false}),(6,{want:=false}),(7,{want:=false}),(8,{want:=false}),(9,{yes:=false})],.c false,.r []] [0,4,9,10,11] [4] (aO c1 c2 (oD c1) c3 c4 c4 c4 (aJ c4 c4 (eB false))) (hc1 (w64 (v1+1)) h6)
 ·obtain rfl:=Zac h2
  exact af fol hE [.r [],.c false,.r []] [] 0 [] c1
theorem Zbg.snd {height_0:Int} {id_1_0:List Int} {checks_2:LL} {r:Bool} (h:Zbg N height_0 id_1_0 checks_2=some r):SndQ Tryz.prog 59 [.one (L.int .i64 height_0),.agg [L.arr .u8 32 id_1_0],.one (L.sl 33 checks_2)] (Zbg.rs r):=fun st=>
 sO Zbg.B Tryz.func59 fun g0 w0 R hE=>by
  unfold Zbg at h
  exact aq fol [.r [],.r []] [0,4,9,10,11] [4] trivial (At.loop N (At.loopN (fun y:Int=>Zbg.p1.S height_0 checks_2 y id_1_0 st) (fun c J hc y h=>Zbg.p1_ok h hE (fun v1=>hc v1)) N 0 h))
end Go.Dn.F
