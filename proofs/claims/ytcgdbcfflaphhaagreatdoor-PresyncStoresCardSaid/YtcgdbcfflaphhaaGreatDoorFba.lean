/- Contracts of functions of the program, as shallow functions, and their proofs. -/
import Derived.Test.YtcgdbcfflaphhaaGreatDoorFa
import Derived.Test.YtcgdbcfflaphhaaGreatDoorFaP
set_option linter.all false
set_option maxRecDepth 100000
namespace Go.Dn.F
open Go.Proofs
variable {N:Nat} {g0:G} {w0:World} {R:Exit→Act→World→Prop}
structure Zbj where
  Salt:Int
  Period:Int
  Offset:Int
noncomputable def Zbj.ls (x:Zbj):List L:=[L.int .i64 x.Salt,L.int .i64 x.Period,L.int .i64 x.Offset]
theorem Zbj.bv {st:LL} (x:Zbj):BVs st x.ls x.ls:=(bP (bP (bP bN)))
structure ZaL where
  P:Zag
  Base:LL
  Plan:Zbj
  Size:Int
  Now:Int
noncomputable def ZaL.ls (x:ZaL):List L:=[L.int .i64 x.P.Limit,L.int .i64 x.P.Interval,L.int .i64 x.P.Spacing,L.int .i64 x.P.Future,L.bool x.P.Easy,L.sl 2 x.P.Gates,L.sl 33 x.P.Checks,L.arr .u64 4 x.P.MinWork,L.arr .u64 4 x.P.Margin,L.int .i64 x.P.Genesis.Version,L.arr .u8 32 x.P.Genesis.Prev,L.arr .u8 32 x.P.Genesis.Root,L.int .i64 x.P.Genesis.Time,L.int .i64 x.P.Genesis.Bits,L.int .i64 x.P.Genesis.Nonce,L.sl 68 x.Base,L.int .i64 x.Plan.Salt,L.int .i64 x.Plan.Period,L.int .i64 x.Plan.Offset,L.int .i64 x.Size,L.int .i64 x.Now]
structure Zdn where
  Spot:Zax
  Work:List Int
noncomputable def Zdn.ls (x:Zdn):List L:=[L.int .i64 x.Spot.Point.Height,L.int .i64 x.Spot.Point.Bits,L.int .i64 x.Spot.Point.Time,L.int .i64 x.Spot.Point.First,L.int .i64 x.Spot.Point.Hard,L.arr .u8 32 x.Spot.Prev,L.sl 1 x.Spot.Times,L.arr .u64 4 x.Work]
structure Zay where
  Plan:Zbj
  words:LL
  given:Int
  met:Int
noncomputable def Zay.lo (x:Zay):List L:=[L.int .i64 x.Plan.Salt,L.int .i64 x.Plan.Period,L.int .i64 x.Plan.Offset,L.own true 1 x.words,L.int .i64 x.given,L.int .i64 x.met]
noncomputable def Zbm {α:Type} (l:List L) (k:Zay→Option α):Option α:=match l with
  | [L.int .i64 x0,L.int .i64 x1,L.int .i64 x2,L.own true 1 x3,L.int .i64 x4,L.int .i64 x5]=>k ⟨⟨x0,x1,x2⟩,x3,x4,x5⟩
  | _=>none
theorem ZbC {α:Type} {o:Option (List L)} {k:Zay→Option α} {r:α} (h:getE o Zbm k=some r) : ∃x:Zay,o=some x.lo∧k x=some r:=by
  obtain ⟨l,e,k1⟩:=Zad h;subst e;unfold Zbm at k1;split at k1
  · exact ⟨_,rfl,k1⟩
  · cases k1
@[simp] theorem Zcb {α:Type} (x:Zay) (k:Zay→Option α):Zbm x.lo k=k x:=rfl
structure ZbW where
  Height:Int
  Version:Int
noncomputable def ZbW.ls (x:ZbW):List L:=[L.int .i64 x.Height,L.int .i64 x.Version]
noncomputable def ZdA {α:Type} (l:List L) (k:ZbW→Option α):Option α:=match l with
  | [L.int .i64 x0,L.int .i64 x1]=>k ⟨x0,x1⟩
  | _=>none
theorem ZdF {α:Type} {o:Option (List L)} {k:ZbW→Option α} {r:α} (h:getE o ZdA k=some r) : ∃x:ZbW,o=some x.ls∧k x=some r:=by
  obtain ⟨l,e,k1⟩:=Zad h;subst e;unfold ZdA at k1;split at k1
  · exact ⟨_,rfl,k1⟩
  · cases k1
@[simp] theorem ZdP {α:Type} (x:ZbW) (k:ZbW→Option α):ZdA x.ls k=k x:=rfl
theorem ZbW.bv {st:LL} (x:ZbW):BVs st x.ls x.ls:=(bP (bP bN))
structure ZbD where
  Height:Int
  Id:List Int
noncomputable def ZbD.ls (x:ZbD):List L:=[L.int .i64 x.Height,L.arr .u8 32 x.Id]
noncomputable def Zdp {α:Type} (l:List L) (k:ZbD→Option α):Option α:=match l with
  | [L.int .i64 x0,L.arr .u8 32 x1]=>k ⟨x0,x1⟩
  | _=>none
theorem Zdx {α:Type} {o:Option (List L)} {k:ZbD→Option α} {r:α} (h:getE o Zdp k=some r) : ∃x:ZbD,o=some x.ls∧k x=some r:=by
  obtain ⟨l,e,k1⟩:=Zad h;subst e;unfold Zdp at k1;split at k1
  · exact ⟨_,rfl,k1⟩
  · cases k1
@[simp] theorem ZdG {α:Type} (x:ZbD) (k:ZbD→Option α):Zdp x.ls k=k x:=rfl
theorem ZbD.bv {st:LL} (x:ZbD):BVs st x.ls x.ls:=(bP (bP bN))
noncomputable def Zay.ls (x:Zay):List L:=[L.int .i64 x.Plan.Salt,L.int .i64 x.Plan.Period,L.int .i64 x.Plan.Offset,L.sl 1 x.words,L.int .i64 x.given,L.int .i64 x.met]
theorem Zay.bv {st:LL} (x:Zay):BVs st x.lo x.ls:=(bP (bP (bP (bW (bP (bP bN))))))
structure Zba where
  Spot:Zax
  work:List Int
noncomputable def Zba.ls (x:Zba):List L:=[L.int .i64 x.Spot.Point.Height,L.int .i64 x.Spot.Point.Bits,L.int .i64 x.Spot.Point.Time,L.int .i64 x.Spot.Point.First,L.int .i64 x.Spot.Point.Hard,L.arr .u8 32 x.Spot.Prev,L.sl 1 x.Spot.Times,L.arr .u64 4 x.work]
structure Zbg where
  rules:Zag
  start:Zba
  point:Zba
  book:Zay
  phase:Int
  most:Int
  size:Int
  buffer:LL
noncomputable def Zbg.ls (x:Zbg):List L:=[L.int .i64 x.rules.Limit,L.int .i64 x.rules.Interval,L.int .i64 x.rules.Spacing,L.int .i64 x.rules.Future,L.bool x.rules.Easy,L.sl 2 x.rules.Gates,L.sl 33 x.rules.Checks,L.arr .u64 4 x.rules.MinWork,L.arr .u64 4 x.rules.Margin,L.int .i64 x.rules.Genesis.Version,L.arr .u8 32 x.rules.Genesis.Prev,L.arr .u8 32 x.rules.Genesis.Root,L.int .i64 x.rules.Genesis.Time,L.int .i64 x.rules.Genesis.Bits,L.int .i64 x.rules.Genesis.Nonce,L.int .i64 x.start.Spot.Point.Height,L.int .i64 x.start.Spot.Point.Bits,L.int .i64 x.start.Spot.Point.Time,L.int .i64 x.start.Spot.Point.First,L.int .i64 x.start.Spot.Point.Hard,L.arr .u8 32 x.start.Spot.Prev,L.sl 1 x.start.Spot.Times,L.arr .u64 4 x.start.work,L.int .i64 x.point.Spot.Point.Height,L.int .i64 x.point.Spot.Point.Bits,L.int .i64 x.point.Spot.Point.Time,L.int .i64 x.point.Spot.Point.First,L.int .i64 x.point.Spot.Point.Hard,L.arr .u8 32 x.point.Spot.Prev,L.sl 1 x.point.Spot.Times,L.arr .u64 4 x.point.work,L.bx 6 x.book.ls,L.int .i64 x.phase,L.int .i64 x.most,L.int .i64 x.size,L.sl 68 x.buffer]
structure Zbe where
  List_:LL
  Now:Int
  More:Bool
noncomputable def Zbe.ls (x:Zbe):List L:=[L.sl 68 x.List_,L.int .i64 x.Now,L.bool x.More]
noncomputable def Zcx {α:Type} (l:List L) (k:Zbe→Option α):Option α:=match l with
  | [L.sl 68 x0,L.int .i64 x1,L.bool x2]=>k ⟨x0,x1,x2⟩
  | _=>none
theorem Zdz {α:Type} {o:Option (List L)} {k:Zbe→Option α} {r:α} (h:getE o Zcx k=some r) : ∃x:Zbe,o=some x.ls∧k x=some r:=by
  obtain ⟨l,e,k1⟩:=Zad h;subst e;unfold Zcx at k1;split at k1
  · exact ⟨_,rfl,k1⟩
  · cases k1
@[simp] theorem ZdE {α:Type} (x:Zbe) (k:Zbe→Option α):Zcx x.ls k=k x:=rfl
structure ZbN where
  P:Zag
  Base:LL
  Seen:LL
  Twice:LL
  Told:Int
  Salt:Int
  Period:Int
  Offset:Int
  Size:Int
  Most:Int
  Phase:Int
noncomputable def ZbN.lo (x:ZbN):List L:=[L.int .i64 x.P.Limit,L.int .i64 x.P.Interval,L.int .i64 x.P.Spacing,L.int .i64 x.P.Future,L.bool x.P.Easy,L.sl 2 x.P.Gates,L.sl 33 x.P.Checks,L.arr .u64 4 x.P.MinWork,L.arr .u64 4 x.P.Margin,L.int .i64 x.P.Genesis.Version,L.arr .u8 32 x.P.Genesis.Prev,L.arr .u8 32 x.P.Genesis.Root,L.int .i64 x.P.Genesis.Time,L.int .i64 x.P.Genesis.Bits,L.int .i64 x.P.Genesis.Nonce,L.sl 68 x.Base,L.own true 68 x.Seen,L.own false 68 x.Twice,L.int .i64 x.Told,L.int .i64 x.Salt,L.int .i64 x.Period,L.int .i64 x.Offset,L.int .i64 x.Size,L.int .i64 x.Most,L.int .i64 x.Phase]
noncomputable def ZcB {α:Type} (l:List L) (k:ZbN→Option α):Option α:=match l with
  | [L.int .i64 x0,L.int .i64 x1,L.int .i64 x2,L.int .i64 x3,L.bool x4,L.sl 2 x5,L.sl 33 x6,L.arr .u64 4 x7,L.arr .u64 4 x8,L.int .i64 x9,L.arr .u8 32 x10,L.arr .u8 32 x11,L.int .i64 x12,L.int .i64 x13,L.int .i64 x14,L.sl 68 x15,L.own true 68 x16,L.own false 68 x17,L.int .i64 x18,L.int .i64 x19,L.int .i64 x20,L.int .i64 x21,L.int .i64 x22,L.int .i64 x23,L.int .i64 x24]=>k ⟨⟨x0,x1,x2,x3,x4,x5,x6,x7,x8,⟨x9,x10,x11,x12,x13,x14⟩⟩,x15,x16,x17,x18,x19,x20,x21,x22,x23,x24⟩
  | _=>none
theorem ZdD {α:Type} {o:Option (List L)} {k:ZbN→Option α} {r:α} (h:getE o ZcB k=some r) : ∃x:ZbN,o=some x.lo∧k x=some r:=by
  obtain ⟨l,e,k1⟩:=Zad h;subst e;unfold ZcB at k1;split at k1
  · exact ⟨_,rfl,k1⟩
  · cases k1
@[simp] theorem ZdL {α:Type} (x:ZbN) (k:ZbN→Option α):ZcB x.lo k=k x:=rfl
noncomputable def Zgt {α:Type} (l:List L) (k:(List Int)→Option α):Option α:=match l with
  | [L.arr .u64 4 x0]=>k x0
  | _=>none
theorem Zjm {α:Type} {o:Option (List L)} {k:(List Int)→Option α} {r:α} (h:getE o Zgt k=some r) : ∃x0,o=some [L.arr .u64 4 x0]∧k x0=some r:=by
  obtain ⟨l,e,k1⟩:=Zad h;subst e;unfold Zgt at k1;split at k1
  · exact ⟨_,rfl,k1⟩
  · cases k1
@[simp] theorem dec_u64x4_ls {α:Type} (x0:List Int) (k:(List Int)→Option α):Zgt [L.arr .u64 4 x0] k=k x0:=rfl
noncomputable def Zby {α:Type} (l:List L) (k:Int→Int→Int→Int→Bool→LL→LL→(List Int)→(List Int)→Int→(List Int)→(List Int)→Int→Int→Int→Int→Int→Int→Int→Int→(List Int)→LL→(List Int)→Int→Int→Int→Int→Int→(List Int)→LL→(List Int)→(Option Nat)→Int→Int→Int→LL→Option α):Option α:=match l with
  | (L.int .i64 x0::L.int .i64 x1::L.int .i64 x2::L.int .i64 x3::L.bool x4::L.sl 2 x5::L.sl 33 x6::L.arr .u64 4 x7::L.arr .u64 4 x8::L.int .i64 x9::L.arr .u8 32 x10::L.arr .u8 32 x11::L.int .i64 x12::L.int .i64 x13::L.int .i64 x14::L.int .i64 x15::L.int .i64 x16::L.int .i64 x17::L.int .i64 x18::L.int .i64 x19::L.arr .u8 32 x20::L.sl 1 x21::L.arr .u64 4 x22::L.int .i64 x23::L.int .i64 x24::L.int .i64 x25::L.int .i64 x26::L.int .i64 x27::L.arr .u8 32 x28::L.sl 1 x29::L.arr .u64 4 x30::L.ptr x31::L.int .i64 x32::L.int .i64 x33::L.int .i64 x34::L.own true 68 x35 :: [])=>k x0 x1 x2 x3 x4 x5 x6 x7 x8 x9 x10 x11 x12 x13 x14 x15 x16 x17 x18 x19 x20 x21 x22 x23 x24 x25 x26 x27 x28 x29 x30 x31 x32 x33 x34 x35
  | _=>none
theorem Zbv {α:Type} {o:Option (List L)} {k:Int→Int→Int→Int→Bool→LL→LL→(List Int)→(List Int)→Int→(List Int)→(List Int)→Int→Int→Int→Int→Int→Int→Int→Int→(List Int)→LL→(List Int)→Int→Int→Int→Int→Int→(List Int)→LL→(List Int)→(Option Nat)→Int→Int→Int→LL→Option α} {r:α} (h:getE o Zby k=some r) : ∃x0 x1 x2 x3 x4 x5 x6 x7 x8 x9 x10 x11 x12 x13 x14 x15 x16 x17 x18 x19 x20 x21 x22 x23 x24 x25 x26 x27 x28 x29 x30 x31 x32 x33 x34 x35,o=some (L.int .i64 x0::L.int .i64 x1::L.int .i64 x2::L.int .i64 x3::L.bool x4::L.sl 2 x5::L.sl 33 x6::L.arr .u64 4 x7::L.arr .u64 4 x8::L.int .i64 x9::L.arr .u8 32 x10::L.arr .u8 32 x11::L.int .i64 x12::L.int .i64 x13::L.int .i64 x14::L.int .i64 x15::L.int .i64 x16::L.int .i64 x17::L.int .i64 x18::L.int .i64 x19::L.arr .u8 32 x20::L.sl 1 x21::L.arr .u64 4 x22::L.int .i64 x23::L.int .i64 x24::L.int .i64 x25::L.int .i64 x26::L.int .i64 x27::L.arr .u8 32 x28::L.sl 1 x29::L.arr .u64 4 x30::L.ptr x31::L.int .i64 x32::L.int .i64 x33::L.int .i64 x34::L.own true 68 x35 :: [])∧k x0 x1 x2 x3 x4 x5 x6 x7 x8 x9 x10 x11 x12 x13 x14 x15 x16 x17 x18 x19 x20 x21 x22 x23 x24 x25 x26 x27 x28 x29 x30 x31 x32 x33 x34 x35=some r:=by
  obtain ⟨l,e,k1⟩:=Zad h;subst e;unfold Zby at k1;split at k1
  · exact ⟨_,_,_,_,_,_,_,_,_,_,_,_,_,_,_,_,_,_,_,_,_,_,_,_,_,_,_,_,_,_,_,_,_,_,_,_,rfl,k1⟩
  · cases k1
@[simp] theorem ZkH {α:Type} (x0:Int) (x1:Int) (x2:Int) (x3:Int) (x4:Bool) (x5:LL) (x6:LL) (x7:List Int) (x8:List Int) (x9:Int) (x10:List Int) (x11:List Int) (x12:Int) (x13:Int) (x14:Int) (x15:Int) (x16:Int) (x17:Int) (x18:Int) (x19:Int) (x20:List Int) (x21:LL) (x22:List Int) (x23:Int) (x24:Int) (x25:Int) (x26:Int) (x27:Int) (x28:List Int) (x29:LL) (x30:List Int) (x31:Option Nat) (x32:Int) (x33:Int) (x34:Int) (x35:LL) (k:Int→Int→Int→Int→Bool→LL→LL→(List Int)→(List Int)→Int→(List Int)→(List Int)→Int→Int→Int→Int→Int→Int→Int→Int→(List Int)→LL→(List Int)→Int→Int→Int→Int→Int→(List Int)→LL→(List Int)→(Option Nat)→Int→Int→Int→LL→Option α):Zby (L.int .i64 x0::L.int .i64 x1::L.int .i64 x2::L.int .i64 x3::L.bool x4::L.sl 2 x5::L.sl 33 x6::L.arr .u64 4 x7::L.arr .u64 4 x8::L.int .i64 x9::L.arr .u8 32 x10::L.arr .u8 32 x11::L.int .i64 x12::L.int .i64 x13::L.int .i64 x14::L.int .i64 x15::L.int .i64 x16::L.int .i64 x17::L.int .i64 x18::L.int .i64 x19::L.arr .u8 32 x20::L.sl 1 x21::L.arr .u64 4 x22::L.int .i64 x23::L.int .i64 x24::L.int .i64 x25::L.int .i64 x26::L.int .i64 x27::L.arr .u8 32 x28::L.sl 1 x29::L.arr .u64 4 x30::L.ptr x31::L.int .i64 x32::L.int .i64 x33::L.int .i64 x34::L.own true 68 x35 :: []) k=k x0 x1 x2 x3 x4 x5 x6 x7 x8 x9 x10 x11 x12 x13 x14 x15 x16 x17 x18 x19 x20 x21 x22 x23 x24 x25 x26 x27 x28 x29 x30 x31 x32 x33 x34 x35:=rfl
noncomputable def ZfZ {α:Type} (l:List L) (k:Int→Option α):Option α:=match l with
  | [L.int .u64 x0]=>k x0
  | _=>none
theorem ZfY {α:Type} {o:Option (List L)} {k:Int→Option α} {r:α} (h:getE o ZfZ k=some r) : ∃x0,o=some [L.int .u64 x0]∧k x0=some r:=by
  obtain ⟨l,e,k1⟩:=Zad h;subst e;unfold ZfZ at k1;split at k1
  · exact ⟨_,rfl,k1⟩
  · cases k1
@[simp] theorem ZiD {α:Type} (x0:Int) (k:Int→Option α):ZfZ [L.int .u64 x0] k=k x0:=rfl
theorem slices_Sort_int.snd:SortC Tryz.prog 195:=slices_Sort_int.holds
theorem Zda.snd {x y z:Int} {r:Int×Int} (h:Zda N x y z=some r):ExtI Tryz.prog 205 [(.u64,x),(.u64,y),(.u64,z)] [(.u64,r.1),(.u64,r.2)]:=Zig Tryz.func205 (by kernel_rfl) (by kernel_rfl) (by kernel_rfl) (by kernel_rfl) h
theorem ZdU.snd {x y z:Int} {r:Int×Int} (h:ZdU N x y z=some r):ExtI Tryz.prog 223 [(.u64,x),(.u64,y),(.u64,z)] [(.u64,r.1),(.u64,r.2)]:=Zif Tryz.func223 (by kernel_rfl) (by kernel_rfl) (by kernel_rfl) (by kernel_rfl) h
noncomputable def Zcy.B:Code:=Tryz.f68.body.getD .skip
noncomputable def Zcy.rs (r:Bool):List CV:=[oB r]
noncomputable def Zcy (N:Nat) (p_0:Zbj):Option Bool:=
 if (decide (p_0.Period≥1))=true then
  if (decide (p_0.Period≤64))=true then
   if (decide (p_0.Offset≥0))=true then
    some (decide (p_0.Offset<p_0.Period))
   else
   some false
  else
  some false
 else
 some false
theorem Zcy.snd {p_0:Zbj} {r:Bool} (h:Zcy N p_0=some r):SndQ Tryz.prog 68 [.agg p_0.ls] (Zcy.rs r):=fun st=>
 sO Zcy.B Tryz.func68 fun g0 w0 R hE=>by
  unfold Zcy at h
  refine iteB h (fun c1 h1=>?_) (fun c1 h2=>?_)
  ·refine iteB h1 (fun c2 h3=>?_) (fun c2 h4=>?_)
   ·refine iteB h3 (fun c3 h5=>?_) (fun c3 h6=>?_)
    ·obtain rfl:=Zac h5
     exact af fol hE [.r [],.r []] [] 0 [] (aO c1 c1 c1 c1 c2 c2 c2 (aN c2 c3 c3 c3 c3 c3 c3))
    ·obtain rfl:=Zac h6
     exact af fol hE [.r [],.r [(14,wF),(15,wF),(16,wF),(17,wF),(18,wF),(19,yF)]] [] 0 [] (aO c1 c1 c1 c1 c2 c2 c2 (aN c2 c3 c3 c3 c3 c3 c3))
   ·obtain rfl:=Zac h4
    exact af fol hE [.r [],.r [(9,wF),(10,wF),(11,wF),(12,yF),(14,wF),(15,wF),(16,wF),(17,wF),(18,wF),(19,yF)]] [] 0 [] (aO c1 c1 c1 c1 c2 c2 c2 (aN c2 eF eF eF eF eF eF))
  ·obtain rfl:=Zac h2
   exact af fol hE [.r [],.r [(4,wF),(5,wF),(6,wF),(7,yF),(9,wF),(10,wF),(11,wF),(12,yF),(14,wF),(15,wF),(16,wF),(17,wF),(18,wF),(19,yF)]] [] 0 [] (aO c1 c1 c1 c1 eF eF eF (aN eF eF eF eF eF eF eF))
noncomputable def ZdI.B:Code:=Tryz.f161.body.getD .skip
noncomputable def ZdI.rs (r:(Option Nat)×Int×LL):List CV:=[.one (L.ptr r.1),oI r.2.1]
noncomputable def ZdI (N:Nat) (p_0:Zbj) (st:LL):Option ((Option Nat)×Int×LL):=
 optE (Zcy N p_0) fun x1=>
 if (!x1)=true then
  some (none,1,st)
 else
 some ((some (List.length st)),0,st ++ [Zay.lo (Zay.mk p_0 [] 0 0)])
theorem ZdI.snd {p_0:Zbj} {st:LL} {r:(Option Nat)×Int×LL} (h:ZdI N p_0 st=some r):Snd Tryz.prog 161 [.agg p_0.ls] st (ZdI.rs r) r.2.2:=
 sO ZdI.B Tryz.func161 fun g0 w0 R hE=>by
  unfold ZdI at h
  obtain ⟨x1,c1,h1⟩:=Zad h
  let o1:List PS:=[.r [],.r [(1,q1 [oB x1])]]
  refine iteB h1 (fun c2 h2=>?_) (fun c2 h3=>?_)
  ·obtain rfl:=Zac h2
   exact af fol hE (o1 ++ [.c true,.r []]) [] 0 [] (aI (Zcy.snd c1) c2)
  ·obtain rfl:=Zac h3
   exact af fol hE (o1 ++ [.c false,.r [(1,{ns:=[3]}),(2,{m:=1})]]) [] 0 [] (aI (Zcy.snd c1) c2)
noncomputable def ZcH.B:Code:=Tryz.f176.body.getD .skip
noncomputable def ZcH.rs (r:(List Int)):List CV:=[.agg [L.arr .u64 4 r]]
noncomputable def ZcH (N:Nat) (n_0:Int):Option (List Int):=
 some [n_0,0,0,0]
theorem ZcH.snd {n_0:Int} {r:(List Int)} (h:ZcH N n_0=some r):SndQ Tryz.prog 176 [.one (L.int .u64 n_0)] (ZcH.rs r):=fun st=>
 sO ZcH.B Tryz.func176 fun g0 w0 R hE=>by
  unfold ZcH at h
  obtain rfl:=Zac h
  exact af fol hE [.r [],.r [(1,{m:=3})]] [] 0 [] trivial
noncomputable def ZaV.B:Code:=Tryz.f177.body.getD .skip
noncomputable def ZaV.rs (r:(List Int)):List CV:=[.agg [L.arr .u64 4 r]]
noncomputable def ZaV.p2 (N:Nat) (c1_:(Int×(List Int))→Option (List Int)) (n_1 v1:Int) (a_0_0 out_4:List Int):Option (List Int):=
 c1_ (w64 (v1+1),out_4)
noncomputable def ZaV.p1 (N:Nat) (n_1:Int) (a_0_0:List Int) (c1_:(Int×(List Int))→Option (List Int)):(Int×(List Int))→Option (List Int):=fun (v1,out_3)=>
 if (decide (v1<(w64 (4-(w64 (Int.tdiv (if (0:Int)>n_1 then 0 else n_1) 64))))))=true then
  chk (0≤(w64 (v1+(w64 (Int.tdiv (if (0:Int)>n_1 then 0 else n_1) 64)))))<|
  chk ((w64 (v1+(w64 (Int.tdiv (if (0:Int)>n_1 then 0 else n_1) 64))))<4)<|
  chk (0≤(Int.tmod (if (0:Int)>n_1 then 0 else n_1) 64))<|
  chk (0≤v1)<|
  chk (v1<4)<|
  if (decide ((w64 ((w64 (v1+(w64 (Int.tdiv (if (0:Int)>n_1 then 0 else n_1) 64))))+1))<4))=true then
   chk (0≤(w64 ((w64 (v1+(w64 (Int.tdiv (if (0:Int)>n_1 then 0 else n_1) 64))))+1)))<|
   chk (0≤(w64 (64-(Int.tmod (if (0:Int)>n_1 then 0 else n_1) 64))))<|
   ZaV.p2 N c1_ n_1 v1 a_0_0 (List.set (List.set out_3 (Int.toNat v1) (shrOf .u64 (List.getD a_0_0 (Int.toNat (w64 (v1+(w64 (Int.tdiv (if (0:Int)>n_1 then 0 else n_1) 64))))) 0) (Int.tmod (if (0:Int)>n_1 then 0 else n_1) 64))) (Int.toNat v1) (bitsOf .or .u64 (List.getD (List.set out_3 (Int.toNat v1) (shrOf .u64 (List.getD a_0_0 (Int.toNat (w64 (v1+(w64 (Int.tdiv (if (0:Int)>n_1 then 0 else n_1) 64))))) 0) (Int.tmod (if (0:Int)>n_1 then 0 else n_1) 64))) (Int.toNat v1) 0) (shlOf .u64 (List.getD a_0_0 (Int.toNat (w64 ((w64 (v1+(w64 (Int.tdiv (if (0:Int)>n_1 then 0 else n_1) 64))))+1))) 0) (w64 (64-(Int.tmod (if (0:Int)>n_1 then 0 else n_1) 64))))))
  else
  ZaV.p2 N c1_ n_1 v1 a_0_0 (List.set out_3 (Int.toNat v1) (shrOf .u64 (List.getD a_0_0 (Int.toNat (w64 (v1+(w64 (Int.tdiv (if (0:Int)>n_1 then 0 else n_1) 64))))) 0) (Int.tmod (if (0:Int)>n_1 then 0 else n_1) 64)))
 else
 some out_3
noncomputable def ZaV (N:Nat) (a_0_0:List Int) (n_1:Int):Option (List Int):=
 if (decide (n_1≥256))=true then
  some (List.replicate 4 0)
 else
 loopN (ZaV.p1 N n_1 a_0_0) N (0,List.replicate 4 0)
noncomputable def ZaV.p2.S (n_1 v1:Int) (a_0_0 out_4:List Int) (st:LL):S:=mkS 53 [(2,sA 2),(4,sA 4),(5,sA 5),(6,sI (w64 (Int.tdiv (if (0:Int)>n_1 then 0 else n_1) 64))),(7,sI (Int.tmod (if (0:Int)>n_1 then 0 else n_1) 64)),(19,sI (w64 (4-(w64 (Int.tdiv (if (0:Int)>n_1 then 0 else n_1) 64))))),(20,sI v1)] [(2,.cells [L.arr .u64 4 a_0_0]),(4,.cells [L.arr .u64 4 (List.replicate 4 0)]),(5,.cells [L.arr .u64 4 out_4])] st
noncomputable def ZaV.p1.S (n_1 v1:Int) (a_0_0 out_3:List Int) (st:LL):S:=mkS 53 [(2,sA 2),(4,sA 4),(5,sA 5),(6,sI (w64 (Int.tdiv (if (0:Int)>n_1 then 0 else n_1) 64))),(7,sI (Int.tmod (if (0:Int)>n_1 then 0 else n_1) 64)),(19,sI (w64 (4-(w64 (Int.tdiv (if (0:Int)>n_1 then 0 else n_1) 64))))),(20,sI v1)] [(2,.cells [L.arr .u64 4 a_0_0]),(4,.cells [L.arr .u64 4 (List.replicate 4 0)]),(5,.cells [L.arr .u64 4 out_3])] st
theorem ZaV.p2_ok {n_1 v1 a_0_0 out_4 st r c1_ J1} (h:ZaV.p2 N c1_ n_1 v1 a_0_0 out_4=some r) (hE:En Tryz.f177 g0 w0 (ZaV.rs r) st R) (hc1 : ∀v1 out_3,c1_ (v1,out_3)=some r→At g0 w0 (ZaV.p1.S n_1 v1 a_0_0 out_3 st) J1):At g0 w0 (ZaV.p2.S n_1 v1 a_0_0 out_4 st) (XK Tryz.prog R [.c (csub ZaV.B [1,1,1,1,0,1,0,0,1,1,1]),.h J1,.b 0,.c (csub ZaV.B [1,1,1,1,1])]):=by
 unfold ZaV.p2 at h
 exact an fol [.r []] [2,4,5,6,7,19,20] [2,4,5] trivial (hc1 (w64 (v1+1)) out_4 h)
theorem ZaV.p1_ok {n_1 v1 a_0_0 out_3 st r c1_ J1} (h:ZaV.p1 N n_1 a_0_0 c1_ (v1,out_3)=some r) (hE:En Tryz.f177 g0 w0 (ZaV.rs r) st R) (hc1 : ∀v1 out_3,c1_ (v1,out_3)=some r→At g0 w0 (ZaV.p1.S n_1 v1 a_0_0 out_3 st) J1):At g0 w0 (ZaV.p1.S n_1 v1 a_0_0 out_3 st) (XK Tryz.prog R (.c (csub ZaV.B [1,1,1,1,0,1,0,0]) :: .h J1 :: [.b 0,.c (csub ZaV.B [1,1,1,1,1])])):=by
 unfold ZaV.p1 at h
 refine iteB h (fun c11 h1=>?_) (fun c11 h2=>?_)
 ·obtain ⟨c12,c13,c14,c15,c16,h3⟩:=ck5 h1
  let o1:List PS:=[.r [],.c true,.r [],.r [],.r []]
  refine iteB h3 (fun c17 h4=>?_) (fun c17 h5=>?_)
  ·obtain ⟨c18,c19,h6⟩:=ck2 h4
   exact aqd fol (o1 ++ [.c true,.d {ds:=[],hv:=16384,Hs:=[16384]},.s 4]) [2,4,5,6,7,19,20] [2,4,5] (aO c11 c12 c13 c14 c15 c16 c17 (aN c15 c16 c18 (oD c17) c19 c15 c16)) (ZaV.p2_ok h6 hE hc1)
  ·exact aq fol (o1 ++ [.c false,.s 4]) [2,4,5,6,7,19,20] [2,4,5] (aN c11 c12 c13 c14 c15 c16 c17) (ZaV.p2_ok h5 hE hc1)
 ·obtain rfl:=Zac h2
  exact af fol hE [.r [],.c false,.r []] [] 0 [] c11
theorem ZaV.snd {a_0_0:List Int} {n_1:Int} {r:(List Int)} (h:ZaV N a_0_0 n_1=some r):SndQ Tryz.prog 177 [.agg [L.arr .u64 4 a_0_0],oI n_1] (ZaV.rs r):=fun st=>
 sO ZaV.B Tryz.func177 fun g0 w0 R hE=>by
  unfold ZaV at h
  refine iteB h (fun c1 h7=>?_) (fun c1 h8=>?_)
  ·obtain rfl:=Zac h7
   exact af fol hE [.r [],.r [],.c true,.r []] [] 0 [] c1
  ·exact aq fol [.r [],.r [],.c false,.r [],.r [],.r []] [2,4,5,6,7,19,20] [2,4,5] (aJ c1 (neI 64) (neI 64)) (At.loop N (At.loopN (fun y:Int×(List Int)=>ZaV.p1.S n_1 y.1 a_0_0 y.2 st) (fun c J hc y h=>ZaV.p1_ok (v1:=y.1) (out_3:=y.2) h hE (fun v1 out_3=>hc (v1,out_3))) N (0,List.replicate 4 0) h8))
noncomputable def Zbu.B:Code:=Tryz.f178.body.getD .skip
noncomputable def Zbu.rs (r:(List Int)):List CV:=[.agg [L.arr .u64 4 r]]
noncomputable def Zbu.p2 (N:Nat) (c1_:(Int×(List Int))→Option (List Int)) (n_1 i_1:Int) (a_0_0 out_4:List Int):Option (List Int):=
 c1_ (w64 (i_1+1),out_4)
noncomputable def Zbu.p1 (N:Nat) (n_1:Int) (a_0_0:List Int) (c1_:(Int×(List Int))→Option (List Int)):(Int×(List Int))→Option (List Int):=fun (i_1,out_3)=>
 if (decide (i_1<4))=true then
  chk (0≤(w64 (i_1-(w64 (Int.tdiv (if (0:Int)>n_1 then 0 else n_1) 64)))))<|
  chk ((w64 (i_1-(w64 (Int.tdiv (if (0:Int)>n_1 then 0 else n_1) 64))))<4)<|
  chk (0≤(Int.tmod (if (0:Int)>n_1 then 0 else n_1) 64))<|
  chk (0≤i_1)<|
  if (decide (i_1>(w64 (Int.tdiv (if (0:Int)>n_1 then 0 else n_1) 64))))=true then
   chk (0≤(w64 ((w64 (i_1-(w64 (Int.tdiv (if (0:Int)>n_1 then 0 else n_1) 64))))-1)))<|
   chk ((w64 ((w64 (i_1-(w64 (Int.tdiv (if (0:Int)>n_1 then 0 else n_1) 64))))-1))<4)<|
   chk (0≤(w64 (64-(Int.tmod (if (0:Int)>n_1 then 0 else n_1) 64))))<|
   Zbu.p2 N c1_ n_1 i_1 a_0_0 (List.set (List.set out_3 (Int.toNat i_1) (shlOf .u64 (List.getD a_0_0 (Int.toNat (w64 (i_1-(w64 (Int.tdiv (if (0:Int)>n_1 then 0 else n_1) 64))))) 0) (Int.tmod (if (0:Int)>n_1 then 0 else n_1) 64))) (Int.toNat i_1) (bitsOf .or .u64 (List.getD (List.set out_3 (Int.toNat i_1) (shlOf .u64 (List.getD a_0_0 (Int.toNat (w64 (i_1-(w64 (Int.tdiv (if (0:Int)>n_1 then 0 else n_1) 64))))) 0) (Int.tmod (if (0:Int)>n_1 then 0 else n_1) 64))) (Int.toNat i_1) 0) (shrOf .u64 (List.getD a_0_0 (Int.toNat (w64 ((w64 (i_1-(w64 (Int.tdiv (if (0:Int)>n_1 then 0 else n_1) 64))))-1))) 0) (w64 (64-(Int.tmod (if (0:Int)>n_1 then 0 else n_1) 64))))))
  else
  Zbu.p2 N c1_ n_1 i_1 a_0_0 (List.set out_3 (Int.toNat i_1) (shlOf .u64 (List.getD a_0_0 (Int.toNat (w64 (i_1-(w64 (Int.tdiv (if (0:Int)>n_1 then 0 else n_1) 64))))) 0) (Int.tmod (if (0:Int)>n_1 then 0 else n_1) 64)))
 else
 some out_3
noncomputable def Zbu (N:Nat) (a_0_0:List Int) (n_1:Int):Option (List Int):=
 if (decide (n_1≥256))=true then
  some (List.replicate 4 0)
 else
 loopN (Zbu.p1 N n_1 a_0_0) N (w64 (Int.tdiv (if (0:Int)>n_1 then 0 else n_1) 64),List.replicate 4 0)
noncomputable def Zbu.p2.S (n_1 i_1:Int) (a_0_0 out_4:List Int) (st:LL):S:=mkS 50 [(2,sA 2),(4,sA 4),(5,sA 5),(6,sI (w64 (Int.tdiv (if (0:Int)>n_1 then 0 else n_1) 64))),(7,sI (Int.tmod (if (0:Int)>n_1 then 0 else n_1) 64)),(8,sI i_1)] [(2,.cells [L.arr .u64 4 a_0_0]),(4,.cells [L.arr .u64 4 (List.replicate 4 0)]),(5,.cells [L.arr .u64 4 out_4])] st
noncomputable def Zbu.p1.S (n_1 i_1:Int) (a_0_0 out_3:List Int) (st:LL):S:=mkS 50 [(2,sA 2),(4,sA 4),(5,sA 5),(6,sI (w64 (Int.tdiv (if (0:Int)>n_1 then 0 else n_1) 64))),(7,sI (Int.tmod (if (0:Int)>n_1 then 0 else n_1) 64)),(8,sI i_1)] [(2,.cells [L.arr .u64 4 a_0_0]),(4,.cells [L.arr .u64 4 (List.replicate 4 0)]),(5,.cells [L.arr .u64 4 out_3])] st
theorem Zbu.p2_ok {n_1 i_1 a_0_0 out_4 st r c1_ J1} (h:Zbu.p2 N c1_ n_1 i_1 a_0_0 out_4=some r) (hE:En Tryz.f178 g0 w0 (Zbu.rs r) st R) (hc1 : ∀i_1 out_3,c1_ (i_1,out_3)=some r→At g0 w0 (Zbu.p1.S n_1 i_1 a_0_0 out_3 st) J1):At g0 w0 (Zbu.p2.S n_1 i_1 a_0_0 out_4 st) (XK Tryz.prog R [.c (csub Zbu.B [1,1,1,1,0,1,0,0,1,1]),.h J1,.b 0,.c (csub Zbu.B [1,1,1,1,1])]):=by
 unfold Zbu.p2 at h
 exact an fol [.r []] [2,4,5,6,7,8] [2,4,5] trivial (hc1 (w64 (i_1+1)) out_4 h)
theorem Zbu.p1_ok {n_1 i_1 a_0_0 out_3 st r c1_ J1} (h:Zbu.p1 N n_1 a_0_0 c1_ (i_1,out_3)=some r) (hE:En Tryz.f178 g0 w0 (Zbu.rs r) st R) (hc1 : ∀i_1 out_3,c1_ (i_1,out_3)=some r→At g0 w0 (Zbu.p1.S n_1 i_1 a_0_0 out_3 st) J1):At g0 w0 (Zbu.p1.S n_1 i_1 a_0_0 out_3 st) (XK Tryz.prog R (.c (csub Zbu.B [1,1,1,1,0,1,0,0]) :: .h J1 :: [.b 0,.c (csub Zbu.B [1,1,1,1,1])])):=by
 unfold Zbu.p1 at h
 refine iteB h (fun c11 h1=>?_) (fun c11 h2=>?_)
 ·obtain ⟨c12,c13,c14,c15,h3⟩:=ck4 h1
  refine iteB h3 (fun c16 h4=>?_) (fun c16 h5=>?_)
  ·obtain ⟨c17,c18,c19,h6⟩:=ck3 h4
   exact aqd fol [.r [],.c true,.r [],.r [],.c true,.d {ds:=[],hv:=16384,Hs:=[16384]},.s 4] [2,4,5,6,7,8] [2,4,5] (aO c11 c12 c13 c14 c15 (oD c11) c16 (aN c15 (oD c11) c17 c18 c19 c15 (oD c11))) (Zbu.p2_ok h6 hE hc1)
  ·exact aq fol [.r [],.c true,.r [],.r [],.c false,.s 4] [2,4,5,6,7,8] [2,4,5] (aN c11 c12 c13 c14 c15 (oD c11) c16) (Zbu.p2_ok h5 hE hc1)
 ·obtain rfl:=Zac h2
  exact af fol hE [.r [],.c false,.r []] [] 0 [] c11
theorem Zbu.snd {a_0_0:List Int} {n_1:Int} {r:(List Int)} (h:Zbu N a_0_0 n_1=some r):SndQ Tryz.prog 178 [.agg [L.arr .u64 4 a_0_0],oI n_1] (Zbu.rs r):=fun st=>
 sO Zbu.B Tryz.func178 fun g0 w0 R hE=>by
  unfold Zbu at h
  refine iteB h (fun c1 h7=>?_) (fun c1 h8=>?_)
  ·obtain rfl:=Zac h7
   exact af fol hE [.r [],.r [],.c true,.r []] [] 0 [] c1
  ·exact aq fol [.r [],.r [],.c false,.r [],.r [],.r []] [2,4,5,6,7,8] [2,4,5] (aJ c1 (neI 64) (neI 64)) (At.loop N (At.loopN (fun y:Int×(List Int)=>Zbu.p1.S n_1 y.1 a_0_0 y.2 st) (fun c J hc y h=>Zbu.p1_ok (i_1:=y.1) (out_3:=y.2) h hE (fun i_1 out_3=>hc (i_1,out_3))) N (w64 (Int.tdiv (if (0:Int)>n_1 then 0 else n_1) 64),List.replicate 4 0) h8))
noncomputable def ZaF.B:Code:=Tryz.f116.body.getD .skip
noncomputable def ZaF.rs (r:(List Int)×Bool×Bool):List CV:=[.agg [L.arr .u64 4 r.1],oB r.2.1,oB r.2.2]
noncomputable def ZaF.p2 (N:Nat) (bits_0:Int) (below_6:Bool) (n_5:List Int):Option ((List Int)×Bool×Bool):=
 if ((bitsOf .and .i64 bits_0 8388607) != 0)=true then
  if (decide ((shrOf .i64 bits_0 24)>34))=true then
   some (n_5,below_6,true)
  else
  if (decide ((bitsOf .and .i64 bits_0 8388607)>255))=true then
   if (decide ((shrOf .i64 bits_0 24)>33))=true then
    some (n_5,below_6,true)
   else
   if (decide ((bitsOf .and .i64 bits_0 8388607)>65535))=true then
    some (n_5,below_6,decide ((shrOf .i64 bits_0 24)>32))
   else
   some (n_5,below_6,false)
  else
  if (decide ((bitsOf .and .i64 bits_0 8388607)>65535))=true then
   some (n_5,below_6,decide ((shrOf .i64 bits_0 24)>32))
  else
  some (n_5,below_6,false)
 else
 some (n_5,below_6,false)
noncomputable def ZaF.p1 (N:Nat) (bits_0:Int) (n_5:List Int):Option ((List Int)×Bool×Bool):=
 if ((bitsOf .and .i64 bits_0 8388607) != 0)=true then
  ZaF.p2 N bits_0 ((bitsOf .and .i64 bits_0 8388608) != 0) n_5
 else
 ZaF.p2 N bits_0 false n_5
noncomputable def ZaF (N:Nat) (bits_0:Int):Option ((List Int)×Bool×Bool):=
 optE (ZcG N bits_0) fun x1=>
 if (!x1)=true then
  some (List.replicate 4 0,false,false)
 else
 optE (ZcH N (v64 (bitsOf .and .i64 bits_0 8388607))) fun x2=>
 if (decide ((shrOf .i64 bits_0 24)≤3))=true then
  optE (ZaV N x2 (w64 (8*(w64 (3-(shrOf .i64 bits_0 24)))))) fun x3=>
  ZaF.p1 N bits_0 x3
 else
 optE (Zbu N x2 (w64 (8*(w64 ((shrOf .i64 bits_0 24)-3))))) fun x4=>
 ZaF.p1 N bits_0 x4
noncomputable def ZaF.p2.S (bits_0:Int) (below_6:Bool) (n_5:List Int) (st:LL):S:=mkS 65 [(2,sA 2),(5,sI (shrOf .i64 bits_0 24)),(6,sI (bitsOf .and .i64 bits_0 8388607)),(7,sA 7),(8,.one (.l (L.bool below_6)))] [(2,.cells [L.arr .u64 4 (List.replicate 4 0)]),(7,.cells [L.arr .u64 4 n_5])] st
noncomputable def ZaF.p1.S (bits_0:Int) (n_5:List Int) (st:LL):S:=mkS 65 [(0,sI bits_0),(2,sA 2),(5,sI (shrOf .i64 bits_0 24)),(6,sI (bitsOf .and .i64 bits_0 8388607)),(7,sA 7)] [(2,.cells [L.arr .u64 4 (List.replicate 4 0)]),(7,.cells [L.arr .u64 4 n_5])] st
theorem ZaF.p2_ok {bits_0 below_6 n_5 st r} (h:ZaF.p2 N bits_0 below_6 n_5=some r) (hE:En Tryz.f116 g0 w0 (ZaF.rs r) st R):At g0 w0 (ZaF.p2.S bits_0 below_6 n_5 st) (XK Tryz.prog R [.c (csub ZaF.B [1,1,1,1,1,1])]):=by
 unfold ZaF.p2 at h
 refine iteB h (fun c8 h1=>?_) (fun c8 h2=>?_)
 ·have t1 {Q:Prop} (q:Q):=aK c8 c8 c8 q
  refine iteB h1 (fun c9 h3=>?_) (fun c9 h4=>?_)
  ·obtain rfl:=Zac h3
   exact af fol hE [.r [(6,wF),(7,wF),(8,wF),(11,wF),(14,wF),(15,wF),(16,wF),(19,wF)],.r []] [] 0 [] (t1 (aO c9 c9 c9 c9 c8 c9 c8 (aN eT eT eT eT c8 eT c8)))
  ·have t2 {Q:Prop} (q:Q):=t1 (aK c9 c9 c9 q)
   refine iteB h4 (fun c10 h5=>?_) (fun c10 h6=>?_)
   ·have t3 {Q:Prop} (q:Q):=t2 (aO c10 c10 c9 c10 c8 c9 c8 q)
    refine iteB h5 (fun c11 h7=>?_) (fun c11 h8=>?_)
    ·obtain rfl:=Zac h7
     exact af fol hE [.r [(12,yF),(14,wF),(15,wF),(16,wF),(19,wF)],.r []] [] 0 [] (t3 (aN c11 c11 c11 c11 c8 c11 c8))
    ·refine iteB h8 (fun c12 h9=>?_) (fun c12 h10=>?_)
     ·obtain rfl:=Zac h9
      exact af fol hE [.r [(12,yF),(20,yF)],.r []] [] 0 [] (t3 (aO c11 c11 c11 c12 c12 c11 c12 (aJ c8 c11 c8)))
     ·obtain rfl:=Zac h10
      exact af fol hE [.r [(12,yF),(17,wF),(18,wF),(19,yF),(20,yF)],.r []] [] 0 [] (t3 (aO c11 c11 c11 c12 c12 c11 c12 (aJ c8 c11 c8)))
   ·have t4 {Q:Prop} (q:Q):=t2 (aO c10 c10 c9 c10 c8 c9 c8 (aK eF eF eF q))
    refine iteB h6 (fun c13 h11=>?_) (fun c13 h12=>?_)
    ·obtain rfl:=Zac h11
     exact af fol hE [.r [(9,wF),(10,wF),(11,yF),(12,yF),(20,yF)],.r []] [] 0 [] (t4 (aN c13 c13 eF c13 c8 eF c8))
    ·obtain rfl:=Zac h12
     exact af fol hE [.r [(9,wF),(10,wF),(11,yF),(12,yF),(17,wF),(18,wF),(19,yF),(20,yF)],.r []] [] 0 [] (t4 (aN c13 c13 eF c13 c8 eF c8))
 ·obtain rfl:=Zac h2
  exact af fol hE [.r [(3,wF),(4,wF),(5,wF),(12,wF),(13,wF),(20,wF),(21,yF)],.r []] [] 0 [] (aN c8 c8 c8 c8 c8 c8 c8)
theorem ZaF.p1_ok {bits_0 n_5 st r} (h:ZaF.p1 N bits_0 n_5=some r) (hE:En Tryz.f116 g0 w0 (ZaF.rs r) st R):At g0 w0 (ZaF.p1.S bits_0 n_5 st) (XK Tryz.prog R [.c (csub ZaF.B [1,1,1,1,1])]):=by
 unfold ZaF.p1 at h
 refine iteB h (fun c7 h13=>?_) (fun c7 h14=>?_)
 ·exact aq fol [.r [],.s 1] [2,5,6,7,8] [2,7] (aK c7 c7 c7 c7) (ZaF.p2_ok h13 hE)
 ·exact aq fol [.r [(3,wF),(4,wF),(5,wF),(6,yF)],.s 1] [2,5,6,7,8] [2,7] (aK c7 c7 c7 c7) (ZaF.p2_ok h14 hE)
theorem ZaF.snd {bits_0:Int} {r:(List Int)×Bool×Bool} (h:ZaF N bits_0=some r):SndQ Tryz.prog 116 [oI bits_0] (ZaF.rs r):=fun st=>
 sO ZaF.B Tryz.func116 fun g0 w0 R hE=>by
  unfold ZaF at h
  obtain ⟨x1,c1,h15⟩:=Zad h
  let o1:List PS:=[.r [],.r [(1,q1 [oB x1])]]
  have t5 {Q:Prop} (q:Q):=aI (ZcG.snd c1) q
  refine iteB h15 (fun c2 h16=>?_) (fun c2 h17=>?_)
  ·obtain rfl:=Zac h16
   exact af fol hE (o1 ++ [.c true,.r []]) [] 0 [] (t5 c2)
  ·obtain ⟨x2,c3,h18⟩:=Zad h17
   let o2:List PS:=o1 ++ [.c false,.r [],.r [(2,q1 [.agg [L.arr .u64 4 x2]])],.r []]
   refine iteB h18 (fun c4 h19=>?_) (fun c4 h20=>?_)
   ·obtain ⟨x3,c5,h21⟩:=Zad h19
    exact aq fol (o2 ++ [.c true,.r [(4,q1 [.agg [L.arr .u64 4 x3]])],.s 1]) [0,2,5,6,7] [2,7] (t5 (aL c2 (leI 0 24) (ZcH.snd c3) c4 (ZaV.snd c5))) (ZaF.p1_ok h21 hE)
   ·obtain ⟨x4,c6,h22⟩:=Zad h20
    exact aq fol (o2 ++ [.c false,.r [(4,q1 [.agg [L.arr .u64 4 x4]])],.s 1]) [0,2,5,6,7] [2,7] (t5 (aL c2 (leI 0 24) (ZcH.snd c3) c4 (Zbu.snd c6))) (ZaF.p1_ok h22 hE)
noncomputable def Zcp.B:Code:=Tryz.f117.body.getD .skip
noncomputable def Zcp.rs (r:Bool):List CV:=[oB r]
noncomputable def Zcp (N:Nat) (a_0_0:List Int):Option Bool:=
 some (a_0_0==(List.replicate 4 0))
theorem Zcp.snd {a_0_0:List Int} {r:Bool} (h:Zcp N a_0_0=some r):SndQ Tryz.prog 117 [.agg [L.arr .u64 4 a_0_0]] (Zcp.rs r):=fun st=>
 sO Zcp.B Tryz.func117 fun g0 w0 R hE=>by
  unfold Zcp at h
  obtain rfl:=Zac h
  exact af fol hE [.r [],.r []] [] 0 [] trivial
noncomputable def Zbh.B:Code:=Tryz.f95.body.getD .skip
noncomputable def Zbh.rs (r:Int):List CV:=[oI r]
noncomputable def Zbh.p1 (N:Nat) (a_0_0 b_1_0:List Int) (c1_:Int→Option Int):Int→Option Int:=fun i_1=>
 if (decide (i_1≥0))=true then
  chk (0≤i_1)<|
  chk (i_1<4)<|
  if (decide ((List.getD a_0_0 (Int.toNat i_1) 0)<(List.getD b_1_0 (Int.toNat i_1) 0)))=true then
   some (-1)
  else
  if (decide ((List.getD a_0_0 (Int.toNat i_1) 0)>(List.getD b_1_0 (Int.toNat i_1) 0)))=true then
   some 1
  else
  c1_ (w64 (i_1-1))
 else
 some 0
noncomputable def Zbh (N:Nat) (a_0_0 b_1_0:List Int):Option Int:=
 loopN (Zbh.p1 N a_0_0 b_1_0) N 3
noncomputable def Zbh.p1.S (i_1:Int) (a_0_0 b_1_0:List Int) (st:LL):S:=mkS 26 [(2,sA 2),(3,sA 3),(5,sI i_1)] [(2,.cells [L.arr .u64 4 a_0_0]),(3,.cells [L.arr .u64 4 b_1_0])] st
theorem Zbh.p1_ok {i_1 a_0_0 b_1_0 st r c1_ J1} (h:Zbh.p1 N a_0_0 b_1_0 c1_ i_1=some r) (hE:En Tryz.f95 g0 w0 (Zbh.rs r) st R) (hc1 : ∀i_1,c1_ i_1=some r→At g0 w0 (Zbh.p1.S i_1 a_0_0 b_1_0 st) J1):At g0 w0 (Zbh.p1.S i_1 a_0_0 b_1_0 st) (XK Tryz.prog R (.c (csub Zbh.B [1,0,1,0,0]) :: .h J1 :: [.b 0,.c (csub Zbh.B [1,1])])):=by
 unfold Zbh.p1 at h
 refine iteB h (fun c1 h1=>?_) (fun c1 h2=>?_)
 ·obtain ⟨c2,c3,h3⟩:=ck2 h1
  let o1:List PS:=[.r [],.c true,.d {ds:=[],hv:=0,Hs:=[]}]
  refine iteB h3 (fun c4 h4=>?_) (fun c4 h5=>?_)
  ·obtain rfl:=Zac h4
   exact afd fol hE (o1 ++ [.c true,.r []]) [] 0 [] (aM c1 c2 c3 c2 c3 c4)
  ·let o2:List PS:=o1 ++ [.c false,.d {ds:=[],hv:=0,Hs:=[]}]
   refine iteB h5 (fun c5 h6=>?_) (fun c5 h7=>?_)
   ·obtain rfl:=Zac h6
    exact afd fol hE (o2 ++ [.c true,.r []]) [] 0 [] (aO c1 c2 c3 c2 c3 c4 c2 (aK c3 c2 c3 c5))
   ·exact and_ fol (o2 ++ [.c false,.r []]) [2,3,5] [2,3] (aO c1 c2 c3 c2 c3 c4 c2 (aK c3 c2 c3 c5)) (hc1 (w64 (i_1-1)) h7)
 ·obtain rfl:=Zac h2
  exact af fol hE [.r [],.c false,.r []] [] 0 [] c1
theorem Zbh.snd {a_0_0 b_1_0:List Int} {r:Int} (h:Zbh N a_0_0 b_1_0=some r):SndQ Tryz.prog 95 [.agg [L.arr .u64 4 a_0_0],.agg [L.arr .u64 4 b_1_0]] (Zbh.rs r):=fun st=>
 sO Zbh.B Tryz.func95 fun g0 w0 R hE=>by
  unfold Zbh at h
  exact aq fol [.r [],.r []] [2,3,5] [2,3] trivial (At.loop N (At.loopN (fun y:Int=>Zbh.p1.S y a_0_0 b_1_0 st) (fun c J hc y h=>Zbh.p1_ok h hE (fun i_1=>hc i_1)) N 3 h))
noncomputable def Zcl.B:Code:=Tryz.f202.body.getD .skip
noncomputable def Zcl.rs (r:Bool):List CV:=[oB r]
noncomputable def Zcl (N:Nat) (a_0_0 b_1_0:List Int):Option Bool:=
 optE (Zbh N a_0_0 b_1_0) fun x1=>
 some (decide (x1<0))
theorem Zcl.snd {a_0_0 b_1_0:List Int} {r:Bool} (h:Zcl N a_0_0 b_1_0=some r):SndQ Tryz.prog 202 [.agg [L.arr .u64 4 a_0_0],.agg [L.arr .u64 4 b_1_0]] (Zcl.rs r):=fun st=>
 sO Zcl.B Tryz.func202 fun g0 w0 R hE=>by
  unfold Zcl at h
  obtain ⟨x1,c1,h1⟩:=Zad h
  obtain rfl:=Zac h1
  exact af fol hE [.r [],.r [(2,q1 [oI x1])]] [] 0 [] (Zbh.snd c1)
noncomputable def ZbT.B:Code:=Tryz.f185.body.getD .skip
noncomputable def ZbT.rs (r:(List Int)×Bool):List CV:=[.agg [L.arr .u64 4 r.1],oB r.2]
noncomputable def ZbT (N:Nat) (bits_0 limit_1:Int):Option ((List Int)×Bool):=
 optE (ZaF N bits_0) fun (x1,x2,x3)=>
 optE (ZaF N limit_1) fun (x4,x5,x6)=>
 if x2=true then
  some (List.replicate 4 0,false)
 else
 if x3=true then
  some (List.replicate 4 0,false)
 else
 if x5=true then
  some (List.replicate 4 0,false)
 else
 if x6=true then
  some (List.replicate 4 0,false)
 else
 optE (Zcp N x1) fun x7=>
 if x7=true then
  some (List.replicate 4 0,false)
 else
 optE (Zcl N x4 x1) fun x8=>
 if x8=true then
  some (List.replicate 4 0,false)
 else
 some (x1,true)
theorem ZbT.snd {bits_0 limit_1:Int} {r:(List Int)×Bool} (h:ZbT N bits_0 limit_1=some r):SndQ Tryz.prog 185 [oI bits_0,oI limit_1] (ZbT.rs r):=fun st=>
 sO ZbT.B Tryz.func185 fun g0 w0 R hE=>by
  unfold ZbT at h
  obtain ⟨⟨x1,x2,x3⟩,c1,h1⟩:=Zad h
  obtain ⟨⟨x4,x5,x6⟩,c2,h2⟩:=Zad h1
  let o1:List PS:=[.r [],.r [(1,q1 [.agg [L.arr .u64 4 x1],oB x2,oB x3])],.r [(1,q1 [.agg [L.arr .u64 4 x4],oB x5,oB x6])]]
  have t1 {Q:Prop} (q:Q):=aJ (ZaF.snd c1) (ZaF.snd c2) q
  refine iteB h2 (fun c3 h3=>?_) (fun c3 h4=>?_)
  ·obtain rfl:=Zac h3
   exact af fol hE (o1 ++ [.r [(2,wF),(5,wF),(8,wF),(11,wF),(12,wF),(15,wF),(16,wF),(17,wF)],.c true,.r []]) [] 0 [] (t1 (aO c3 c3 eT eT eT eT eT (aN eT eT eT eT eT eT eT)))
  ·refine iteB h4 (fun c4 h5=>?_) (fun c4 h6=>?_)
   ·obtain rfl:=Zac h5
    exact af fol hE (o1 ++ [.r [(3,yF),(5,wF),(8,wF),(11,wF),(12,wF),(15,wF),(16,wF),(17,wF)],.c true,.r []]) [] 0 [] (t1 (aO c3 c3 c4 c4 eT eT eT (aN eT eT eT eT eT eT eT)))
   ·have t2 {Q:Prop} (q:Q):=t1 (aL c3 c3 c4 c4 q)
    refine iteB h6 (fun c5 h7=>?_) (fun c5 h8=>?_)
    ·obtain rfl:=Zac h7
     exact af fol hE (o1 ++ [.r [(3,yF),(6,yF),(8,wF),(11,wF),(12,wF),(15,wF),(16,wF),(17,wF)],.c true,.r []]) [] 0 [] (t2 (aO c5 c5 eT eT eT eT eT (aJ eT eT eT)))
    ·refine iteB h8 (fun c6 h9=>?_) (fun c6 h10=>?_)
     ·obtain rfl:=Zac h9
      exact af fol hE (o1 ++ [.r [(3,yF),(6,yF),(9,yF),(11,wF),(12,wF),(15,wF),(16,wF),(17,wF)],.c true,.r []]) [] 0 [] (t2 (aO c5 c5 c6 c6 c6 eT eT (aJ eT eT eT)))
     ·obtain ⟨x7,c7,h11⟩:=Zad h10
      have t3 {Q:Prop} (q:Q):=t2 (aN c5 c5 c6 c6 (Zcp.snd c7) c6 q)
      refine iteB h11 (fun c8 h12=>?_) (fun c8 h13=>?_)
      ·obtain rfl:=Zac h12
       exact af fol hE (o1 ++ [.r [(3,yF),(6,yF),(9,yF),(12,q1 [oB x7]),(13,yF),(15,wF),(16,wF),(17,wF)],.c true,.r []]) [] 0 [] (t3 (aL c8 c8 c8 c8 eT))
      ·obtain ⟨x8,c9,h14⟩:=Zad h13
       let o2:List PS:=o1 ++ [.r [(3,yF),(6,yF),(9,yF),(12,q1 [oB x7]),(13,yF),(17,q1 [oB x8]),(18,yF)]]
       refine iteB h14 (fun c10 h15=>?_) (fun c10 h16=>?_)
       ·obtain rfl:=Zac h15
        exact af fol hE (o2 ++ [.c true,.r []]) [] 0 [] (t3 (aM c8 c8 c8 (Zcl.snd c9) c8 c10))
       ·obtain rfl:=Zac h16
        exact af fol hE (o2 ++ [.c false,.r []]) [] 0 [] (t3 (aM c8 c8 c8 (Zcl.snd c9) c8 c10))
noncomputable def Zdt.B:Code:=Tryz.f145.body.getD .skip
noncomputable def Zdt.rs (r:Bool):List CV:=[oB r]
noncomputable def Zdt (N:Nat) (p_0:Zag):Option Bool:=
 optE (ZbT N p_0.Limit p_0.Limit) fun (x1,x2)=>
 if x2=true then
  if (decide (p_0.Interval≥2))=true then
   if (decide (p_0.Interval≤64))=true then
    if (decide (p_0.Spacing≥1))=true then
     if (decide (p_0.Spacing≤10000))=true then
      if (decide (p_0.Future≥0))=true then
       some (decide (p_0.Future<4294967296))
      else
      some false
     else
     some false
    else
    some false
   else
   some false
  else
  some false
 else
 some false
theorem Zdt.snd {p_0:Zag} {r:Bool} (h:Zdt N p_0=some r):SndQ Tryz.prog 145 [.agg p_0.ls] (Zdt.rs r):=fun st=>
 sO Zdt.B Tryz.func145 fun g0 w0 R hE=>by
  unfold Zdt at h
  obtain ⟨⟨x1,x2⟩,c1,h1⟩:=Zad h
  let o1:List PS:=[.r [],.r [(4,q1 [.agg [L.arr .u64 4 x1],oB x2])]]
  have t1 {Q:Prop} (q:Q):=aI (ZbT.snd c1) q
  refine iteB h1 (fun c2 h2=>?_) (fun c2 h3=>?_)
  ·have t2 {Q:Prop} (q:Q):=t1 (aL c2 c2 c2 c2 q)
   refine iteB h2 (fun c3 h4=>?_) (fun c3 h5=>?_)
   ·have t3 {Q:Prop} (q:Q):=t2 (aL c3 c3 c3 c3 q)
    refine iteB h4 (fun c4 h6=>?_) (fun c4 h7=>?_)
    ·have t4 {Q:Prop} (q:Q):=t3 (aL c4 c4 c4 c4 q)
     refine iteB h6 (fun c5 h8=>?_) (fun c5 h9=>?_)
     ·refine iteB h8 (fun c6 h10=>?_) (fun c6 h11=>?_)
      ·refine iteB h10 (fun c7 h12=>?_) (fun c7 h13=>?_)
       ·obtain rfl:=Zac h12
        exact af fol hE (o1 ++ [.r []]) [] 0 [] (t4 (aO c5 c5 c5 c5 c6 c6 c6 (aL c6 c7 c7 c7 c7)))
       ·obtain rfl:=Zac h13
        exact af fol hE (o1 ++ [.r [(27,wF),(28,wF),(29,wF),(30,yF)]]) [] 0 [] (t4 (aO c5 c5 c5 c5 c6 c6 c6 (aL c6 c7 c7 c7 c7)))
      ·obtain rfl:=Zac h11
       exact af fol hE (o1 ++ [.r [(22,wF),(23,wF),(24,wF),(25,yF),(27,wF),(28,wF),(29,wF),(30,yF)]]) [] 0 [] (t4 (aO c5 c5 c5 c5 c6 c6 c6 (aL c6 eF eF eF eF)))
     ·obtain rfl:=Zac h9
      exact af fol hE (o1 ++ [.r [(17,wF),(18,wF),(19,wF),(20,yF),(22,wF),(23,wF),(24,wF),(25,yF),(27,wF),(28,wF),(29,wF),(30,yF)]]) [] 0 [] (t4 (aO c5 c5 c5 c5 eF eF eF (aL eF eF eF eF eF)))
    ·obtain rfl:=Zac h7
     exact af fol hE (o1 ++ [.r [(12,wF),(13,wF),(14,wF),(15,yF),(17,wF),(18,wF),(19,wF),(20,yF),(22,wF),(23,wF),(24,wF),(25,yF),(27,wF),(28,wF),(29,wF),(30,yF)]]) [] 0 [] (t3 (aO c4 c4 c4 c4 eF eF eF (aO eF eF eF eF eF eF eF (aI eF eF))))
   ·obtain rfl:=Zac h5
    exact af fol hE (o1 ++ [.r [(7,wF),(8,wF),(9,wF),(10,yF),(12,wF),(13,wF),(14,wF),(15,yF),(17,wF),(18,wF),(19,wF),(20,yF),(22,wF),(23,wF),(24,wF),(25,yF),(27,wF),(28,wF),(29,wF),(30,yF)]]) [] 0 [] (t2 (aO c3 c3 c3 c3 eF eF eF (aO eF eF eF eF eF eF eF (aM eF eF eF eF eF eF))))
  ·obtain rfl:=Zac h3
   exact af fol hE (o1 ++ [.r [(2,wF),(3,wF),(4,wF),(5,yF),(7,wF),(8,wF),(9,wF),(10,yF),(12,wF),(13,wF),(14,wF),(15,yF),(17,wF),(18,wF),(19,wF),(20,yF),(22,wF),(23,wF),(24,wF),(25,yF),(27,wF),(28,wF),(29,wF),(30,yF)]]) [] 0 [] (t1 (aO c2 c2 c2 c2 eF eF eF (aO eF eF eF eF eF eF eF (aO eF eF eF eF eF eF eF (aJ eF eF eF)))))
noncomputable def Zbw.B:Code:=Tryz.f87.body.getD .skip
noncomputable def Zbw.rs (r:Bool):List CV:=[oB r]
noncomputable def Zbw.p2 (N:Nat) (p_0:Zag) (c2_:Int→Option Bool):Int→Option Bool:=fun v6=>
 if (decide (v6<(len p_0.Checks)))=true then
  chk (0≤v6)<|
  getE (p_0.Checks[Int.toNat v6]?) Zdp fun x7=>
  if (decide (x7.Height<1))=true then
   some false
  else
  if (decide (v6>0))=true then
   chk (0≤(w64 (v6-1)))<|
   chk ((w64 (v6-1))<(len p_0.Checks))<|
   getE (p_0.Checks[Int.toNat (w64 (v6-1))]?) Zdp fun x8=>
   if (decide (x7.Height≤x8.Height))=true then
    some false
   else
   c2_ (w64 (v6+1))
  else
  c2_ (w64 (v6+1))
 else
 some true
noncomputable def Zbw.p1 (N:Nat) (p_0:Zag) (c1_:Int→Option Bool):Int→Option Bool:=fun v3=>
 if (decide (v3<(len p_0.Gates)))=true then
  chk (0≤v3)<|
  getE (p_0.Gates[Int.toNat v3]?) ZdA fun x4=>
  if (decide (x4.Height<0))=true then
   some false
  else
  if (decide (v3>0))=true then
   chk (0≤(w64 (v3-1)))<|
   chk ((w64 (v3-1))<(len p_0.Gates))<|
   getE (p_0.Gates[Int.toNat (w64 (v3-1))]?) ZdA fun x5=>
   if (decide (x4.Height≤x5.Height))=true then
    some false
   else
   c1_ (w64 (v3+1))
  else
  c1_ (w64 (v3+1))
 else
 loopN (Zbw.p2 N p_0) N 0
noncomputable def Zbw (N:Nat) (p_0:Zag):Option Bool:=
 optE (Zdt N p_0) fun x1=>
 if (!x1)=true then
  some false
 else
 optE (Zce N p_0.Genesis) fun x2=>
 if (!x2)=true then
  some false
 else
 loopN (Zbw.p1 N p_0) N 0
noncomputable def Zbw.p2.S (p_0:Zag) (v6:Int) (st:LL):S:=mkS 72 [(1,sA 1),(45,sV 33 p_0.Checks),(46,sI (len p_0.Checks)),(47,sI v6)] [(1,.cells p_0.ls)] st
noncomputable def Zbw.p1.S (p_0:Zag) (v3:Int) (st:LL):S:=mkS 72 [(1,sA 1),(17,sV 2 p_0.Gates),(18,sI (len p_0.Gates)),(19,sI v3)] [(1,.cells p_0.ls)] st
theorem Zbw.p2_ok {p_0 v6 st r c2_ J2} (h:Zbw.p2 N p_0 c2_ v6=some r) (hE:En Tryz.f87 g0 w0 (Zbw.rs r) st R) (hc2 : ∀v6,c2_ v6=some r→At g0 w0 (Zbw.p2.S p_0 v6 st) J2):At g0 w0 (Zbw.p2.S p_0 v6 st) (XK Tryz.prog R (.c (csub Zbw.B [1,1,1,0,1,0,0]) :: .h J2 :: [.b 2,.c (csub Zbw.B [1,1,1,1])])):=by
 unfold Zbw.p2 at h
 refine iteB h (fun c14 h1=>?_) (fun c14 h2=>?_)
 ·obtain ⟨c15,h3⟩:=ZaN h1
  obtain ⟨x7,c16,h4⟩:=Zdx h3
  let o1:List PS:=[.r [],.c true,.r [(2,{oe:=x7.ls})]]
  have t1 {Q:Prop} (q:Q):=aL c14 c15 (oD c14) c16 q
  refine iteB h4 (fun c17 h5=>?_) (fun c17 h6=>?_)
  ·obtain rfl:=Zac h5
   exact afd fol hE (o1 ++ [.d {ds:=[(4,wF),(5,wF),(6,wF),(17,wF)],hv:=0,Hs:=[]},.c true,.r []]) [] 0 [] (t1 (aM c17 c17 c17 c17 c17 eT))
  ·refine iteB h6 (fun c18 h7=>?_) (fun c18 h8=>?_)
   ·obtain ⟨c19,c20,h9⟩:=ck2 h7
    obtain ⟨x8,c21,h10⟩:=Zdx h9
    let o2:List PS:=o1 ++ [.d {ds:=[(15,{oe:=x8.ls}),(18,yF)],hv:=0,Hs:=[]}]
    have t2 {Q:Prop} (q:Q):=t1 (aO c17 c17 c17 c18 c18 c18 c18 (aO c18 c18 c18 c19 c20 c18 c18 (aM c21 c18 c17 c18 c17 q)))
    refine iteB h10 (fun c22 h11=>?_) (fun c22 h12=>?_)
    ·obtain rfl:=Zac h11
     exact afd fol hE (o2 ++ [.c true,.r []]) [] 0 [] (t2 c22)
    ·exact and_ fol (o2 ++ [.c false,.r []]) [1,45,46,47] [1] (t2 c22) (hc2 (w64 (v6+1)) h12)
   ·exact and_ fol (o1 ++ [.d {ds:=[(7,wF),(8,wF),(9,wF),(10,wF),(11,wF),(12,wF),(13,wF),(14,wF),(15,wF),(16,wF),(17,yF),(18,yF)],hv:=0,Hs:=[]},.c false,.r []]) [1,45,46,47] [1] (t1 (aO c17 c17 c17 c18 c18 c18 c18 (aO c18 c18 c18 c18 c18 c18 c17 (aJ c18 c17 eF)))) (hc2 (w64 (v6+1)) h8)
 ·obtain rfl:=Zac h2
  exact af fol hE [.r [],.c false,.r []] [] 0 [] c14
theorem Zbw.p1_ok {p_0 v3 st r c1_ J1} (h:Zbw.p1 N p_0 c1_ v3=some r) (hE:En Tryz.f87 g0 w0 (Zbw.rs r) st R) (hc1 : ∀v3,c1_ v3=some r→At g0 w0 (Zbw.p1.S p_0 v3 st) J1):At g0 w0 (Zbw.p1.S p_0 v3 st) (XK Tryz.prog R (.c (csub Zbw.B [1,1,0,1,0,0]) :: .h J1 :: [.b 0,.c (csub Zbw.B [1,1,1])])):=by
 unfold Zbw.p1 at h
 refine iteB h (fun c5 h13=>?_) (fun c5 h14=>?_)
 ·obtain ⟨c6,h15⟩:=ZaN h13
  obtain ⟨x4,c7,h16⟩:=ZdF h15
  let o3:List PS:=[.r [],.c true,.r [(2,{oe:=x4.ls})]]
  have t3 {Q:Prop} (q:Q):=aL c5 c6 (oD c5) c7 q
  refine iteB h16 (fun c8 h17=>?_) (fun c8 h18=>?_)
  ·obtain rfl:=Zac h17
   exact afd fol hE (o3 ++ [.d {ds:=[(4,wF),(5,wF),(6,wF),(17,wF)],hv:=0,Hs:=[]},.c true,.r []]) [] 0 [] (t3 (aM c8 c8 c8 c8 c8 eT))
  ·refine iteB h18 (fun c9 h19=>?_) (fun c9 h20=>?_)
   ·obtain ⟨c10,c11,h21⟩:=ck2 h19
    obtain ⟨x5,c12,h22⟩:=ZdF h21
    let o4:List PS:=o3 ++ [.d {ds:=[(15,{oe:=x5.ls}),(18,yF)],hv:=0,Hs:=[]}]
    have t4 {Q:Prop} (q:Q):=t3 (aO c8 c8 c8 c9 c9 c9 c9 (aO c9 c9 c9 c10 c11 c9 c9 (aM c12 c9 c8 c9 c8 q)))
    refine iteB h22 (fun c13 h23=>?_) (fun c13 h24=>?_)
    ·obtain rfl:=Zac h23
     exact afd fol hE (o4 ++ [.c true,.r []]) [] 0 [] (t4 c13)
    ·exact and_ fol (o4 ++ [.c false,.r []]) [1,17,18,19] [1] (t4 c13) (hc1 (w64 (v3+1)) h24)
   ·exact and_ fol (o3 ++ [.d {ds:=[(7,wF),(8,wF),(9,wF),(10,wF),(11,wF),(12,wF),(13,wF),(14,wF),(15,wF),(16,wF),(17,yF),(18,yF)],hv:=0,Hs:=[]},.c false,.r []]) [1,17,18,19] [1] (t3 (aO c8 c8 c8 c9 c9 c9 c9 (aO c9 c9 c9 c9 c9 c9 c8 (aJ c9 c8 eF)))) (hc1 (w64 (v3+1)) h20)
 ·exact aq fol [.r [],.c false,.r []] [1,45,46,47] [1] c5 (At.loop N (At.loopN (fun y:Int=>Zbw.p2.S p_0 y st) (fun c J hc y h=>Zbw.p2_ok h hE (fun v6=>hc v6)) N 0 h14))
theorem Zbw.snd {p_0:Zag} {r:Bool} (h:Zbw N p_0=some r):SndQ Tryz.prog 87 [.agg p_0.ls] (Zbw.rs r):=fun st=>
 sO Zbw.B Tryz.func87 fun g0 w0 R hE=>by
  unfold Zbw at h
  obtain ⟨x1,c1,h25⟩:=Zad h
  have t5 {Q:Prop} (q:Q):=aI (Zdt.snd c1) q
  refine iteB h25 (fun c2 h26=>?_) (fun c2 h27=>?_)
  ·obtain rfl:=Zac h26
   exact af fol hE [.r [],.r [(1,q1 [oB x1]),(4,wF),(5,wF),(6,wF),(7,wF)],.c true,.r []] [] 0 [] (t5 (aM (not_false (Zbd c2)) (not_false (Zbd c2)) (not_false (Zbd c2)) (not_false (Zbd c2)) (not_false (Zbd c2)) eT))
  ·obtain ⟨x2,c3,h28⟩:=Zad h27
   let o5:List PS:=[.r [],.r [(1,q1 [oB x1]),(6,q1 [oB x2]),(8,yF)]]
   have t6 {Q:Prop} (q:Q):=t5 (aN (not_true (ZaZ c2)) (not_true (ZaZ c2)) (not_true (ZaZ c2)) (Zce.snd c3) (not_true (ZaZ c2)) (not_true (ZaZ c2)) q)
   refine iteB h28 (fun c4 h29=>?_) (fun c4 h30=>?_)
   ·obtain rfl:=Zac h29
    exact af fol hE (o5 ++ [.c true,.r []]) [] 0 [] (t6 c4)
   ·exact aq fol (o5 ++ [.c false,.r []]) [1,17,18,19] [1] (t6 c4) (At.loop N (At.loopN (fun y:Int=>Zbw.p1.S p_0 y st) (fun c J hc y h=>Zbw.p1_ok h hE (fun v3=>hc v3)) N 0 h30))
noncomputable def Zdu.B:Code:=Tryz.f162.body.getD .skip
noncomputable def Zdu.rs (r:Int):List CV:=[oI r]
noncomputable def Zdu (N:Nat) (times_0:LL):Option Int:=
 chk (0≤(if (11:Int)<(len times_0) then 11 else (len times_0)))<|
 chk ((Int.toNat (if (11:Int)<(len times_0) then 11 else (len times_0)))≤(List.length times_0))<|
 optE (Zbp N (List.take (Int.toNat (if (11:Int)<(len times_0) then 11 else (len times_0))) (List.drop 0 times_0))) fun x1=>
 if ((len x1)==0)=true then
  some 0
 else
 chk (isI x1=true)<|
 chk (List.length x1<4611686018427387904)<|
 chk (0≤(w64 (Int.tdiv (len x1) 2)))<|
 chk ((w64 (Int.tdiv (len x1) 2))<(len x1))<|
 getE ((sortR x1)[0+(Int.toNat (w64 (Int.tdiv (len x1) 2)))]?) Zej fun x2=>
 some x2
theorem Zdu.snd {times_0:LL} {r:Int} (h:Zdu N times_0=some r):SndQ Tryz.prog 162 [.one (L.sl 1 times_0)] (Zdu.rs r):=fun st=>
 sO Zdu.B Tryz.func162 fun g0 w0 R hE=>by
  unfold Zdu at h
  obtain ⟨c1,c2,h1⟩:=ck2 h
  obtain ⟨x1,c3,h2⟩:=Zad h1
  let o1:List PS:=[.r [],.r [(5,{rs:=[.row true 1 x1],ns:=[9],m:=1})],.r []]
  have t1 {Q:Prop} (q:Q):=aL c1 (Nat.zero_le (Int.toNat (if (11:Int)<(len times_0) then 11 else (len times_0)))) c2 (Zbp.snd c3) q
  refine iteB h2 (fun c4 h3=>?_) (fun c4 h4=>?_)
  ·obtain rfl:=Zac h3
   exact af fol hE (o1 ++ [.c true,.r []]) [] 0 [] (t1 c4)
  ·obtain ⟨c5,c6,c7,c8,h5⟩:=ck4 h4
   obtain ⟨x2,c9,h6⟩:=Zdh h5
   obtain rfl:=Zac h6
   exact af fol hE (o1 ++ [.c false,.r [(1,{m:=7})],.r [(5,{oe:=[L.int .i64 x2]})]]) [] 0 [] (t1 (aO c4 z0 (@rfl _ (List.length x1):(List.length x1)=(List.length x1)) c5 c6 slices_Sort_int.snd (neI 2) (aJ c7 c8 c9)))
noncomputable def Zcm.B:Code:=Tryz.f103.body.getD .skip
noncomputable def Zcm.rs (r:Int):List CV:=[oI r]
noncomputable def Zcm (N:Nat) (plan_0:Zbj) (seconds_1:Int):Option Int:=
 optE (Zcy N plan_0) fun x1=>
 if (!x1)=true then
  some 0
 else
 if (decide (seconds_1<0))=true then
  some 0
 else
 chk (plan_0.Period≠0)<|
 some (w64 ((w64 (Int.tdiv (w64 (6*(if (8589934592:Int)<seconds_1 then 8589934592 else seconds_1))) plan_0.Period))+1))
theorem Zcm.snd {plan_0:Zbj} {seconds_1:Int} {r:Int} (h:Zcm N plan_0 seconds_1=some r):SndQ Tryz.prog 103 [.agg plan_0.ls,oI seconds_1] (Zcm.rs r):=fun st=>
 sO Zcm.B Tryz.func103 fun g0 w0 R hE=>by
  unfold Zcm at h
  obtain ⟨x1,c1,h1⟩:=Zad h
  have t1 {Q:Prop} (q:Q):=aI (Zcy.snd c1) q
  refine iteB h1 (fun c2 h2=>?_) (fun c2 h3=>?_)
  ·obtain rfl:=Zac h2
   exact af fol hE [.r [],.r [(1,q1 [oB x1]),(4,wF),(5,wF)],.c true,.r []] [] 0 [] (t1 (aK (not_false (Zbd c2)) (not_false (Zbd c2)) (not_false (Zbd c2)) eT))
  ·let o1:List PS:=[.r [],.r [(1,q1 [oB x1]),(6,yF)]]
   have t2 {Q:Prop} (q:Q):=t1 (aK (not_true (ZaZ c2)) (not_true (ZaZ c2)) (not_true (ZaZ c2)) q)
   refine iteB h3 (fun c3 h4=>?_) (fun c3 h5=>?_)
   ·obtain rfl:=Zac h4
    exact af fol hE (o1 ++ [.c true,.r []]) [] 0 [] (t2 c3)
   ·obtain ⟨c4,h6⟩:=ZaN h5
    obtain rfl:=Zac h6
    exact af fol hE (o1 ++ [.c false,.r []]) [] 0 [] (t2 (aI c3 c4))
noncomputable def ZcC.B:Code:=Tryz.f102.body.getD .skip
noncomputable def ZcC.rs (r:(Option Nat)×Int×LL):List CV:=[.one (L.ptr r.1),oI r.2.1]
noncomputable def ZcC (N:Nat) (p_0:Zag) (from_1:Zdn) (plan_2:Zbj) (size_3 now_4:Int) (st:LL):Option ((Option Nat)×Int×LL):=
 optE (ZdI N plan_2 st) fun (x1,x2,st3)=>
 if (x2 != 0)=true then
  some (none,1,st3)
 else
 if (decide (size_3<1))=true then
  some (none,1,st3)
 else
 if (decide (size_3>64))=true then
  some (none,1,st3)
 else
 if (decide (now_4<0))=true then
  some (none,1,st3)
 else
 if (decide (now_4>4294967296))=true then
  some (none,1,st3)
 else
 optE (Zbw N p_0) fun x4=>
 if (!x4)=true then
  some (none,1,st3)
 else
 chk (List.length ([]++p_0.Gates)*16≤140737488355328)<|
 chk (List.length ([]++p_0.Checks)*40≤140737488355328)<|
 chk (List.length ([]++from_1.Spot.Times)*8≤140737488355328)<|
 optE (Zdu N from_1.Spot.Times) fun x5=>
 optE (Zcm N plan_2 (if (0:Int)>(w64 ((w64 (now_4+p_0.Future))-x5)) then 0 else (w64 ((w64 (now_4+p_0.Future))-x5)))) fun x6=>
 some ((some (List.length st3)),0,List.set (List.set (List.set (st3 ++ [[L.int .i64 p_0.Limit,L.int .i64 p_0.Interval,L.int .i64 p_0.Spacing,L.int .i64 p_0.Future,L.bool p_0.Easy,L.sl 2 ([]++p_0.Gates),L.sl 33 ([]++p_0.Checks),L.arr .u64 4 p_0.MinWork,L.arr .u64 4 p_0.Margin,L.int .i64 p_0.Genesis.Version,L.arr .u8 32 p_0.Genesis.Prev,L.arr .u8 32 p_0.Genesis.Root,L.int .i64 p_0.Genesis.Time,L.int .i64 p_0.Genesis.Bits,L.int .i64 p_0.Genesis.Nonce,L.int .i64 from_1.Spot.Point.Height,L.int .i64 from_1.Spot.Point.Bits,L.int .i64 from_1.Spot.Point.Time,L.int .i64 from_1.Spot.Point.First,L.int .i64 from_1.Spot.Point.Hard,L.arr .u8 32 from_1.Spot.Prev,L.sl 1 from_1.Spot.Times,L.arr .u64 4 from_1.Work,L.int .i64 0,L.int .i64 0,L.int .i64 0,L.int .i64 0,L.int .i64 0,L.arr .u8 32 (List.replicate 32 0),L.sl 1 [],L.arr .u64 4 (List.replicate 4 0),L.ptr x1,L.int .i64 1,L.int .i64 0,L.int .i64 size_3,L.own true 68 []]]) (List.length st3) [L.int .i64 p_0.Limit,L.int .i64 p_0.Interval,L.int .i64 p_0.Spacing,L.int .i64 p_0.Future,L.bool p_0.Easy,L.sl 2 ([]++p_0.Gates),L.sl 33 ([]++p_0.Checks),L.arr .u64 4 p_0.MinWork,L.arr .u64 4 p_0.Margin,L.int .i64 p_0.Genesis.Version,L.arr .u8 32 p_0.Genesis.Prev,L.arr .u8 32 p_0.Genesis.Root,L.int .i64 p_0.Genesis.Time,L.int .i64 p_0.Genesis.Bits,L.int .i64 p_0.Genesis.Nonce,L.int .i64 from_1.Spot.Point.Height,L.int .i64 from_1.Spot.Point.Bits,L.int .i64 from_1.Spot.Point.Time,L.int .i64 from_1.Spot.Point.First,L.int .i64 from_1.Spot.Point.Hard,L.arr .u8 32 from_1.Spot.Prev,L.sl 1 ([]++from_1.Spot.Times),L.arr .u64 4 from_1.Work,L.int .i64 0,L.int .i64 0,L.int .i64 0,L.int .i64 0,L.int .i64 0,L.arr .u8 32 (List.replicate 32 0),L.sl 1 [],L.arr .u64 4 (List.replicate 4 0),L.ptr x1,L.int .i64 1,L.int .i64 0,L.int .i64 size_3,L.own true 68 []]) (List.length st3) [L.int .i64 p_0.Limit,L.int .i64 p_0.Interval,L.int .i64 p_0.Spacing,L.int .i64 p_0.Future,L.bool p_0.Easy,L.sl 2 ([]++p_0.Gates),L.sl 33 ([]++p_0.Checks),L.arr .u64 4 p_0.MinWork,L.arr .u64 4 p_0.Margin,L.int .i64 p_0.Genesis.Version,L.arr .u8 32 p_0.Genesis.Prev,L.arr .u8 32 p_0.Genesis.Root,L.int .i64 p_0.Genesis.Time,L.int .i64 p_0.Genesis.Bits,L.int .i64 p_0.Genesis.Nonce,L.int .i64 from_1.Spot.Point.Height,L.int .i64 from_1.Spot.Point.Bits,L.int .i64 from_1.Spot.Point.Time,L.int .i64 from_1.Spot.Point.First,L.int .i64 from_1.Spot.Point.Hard,L.arr .u8 32 from_1.Spot.Prev,L.sl 1 ([]++from_1.Spot.Times),L.arr .u64 4 from_1.Work,L.int .i64 from_1.Spot.Point.Height,L.int .i64 from_1.Spot.Point.Bits,L.int .i64 from_1.Spot.Point.Time,L.int .i64 from_1.Spot.Point.First,L.int .i64 from_1.Spot.Point.Hard,L.arr .u8 32 from_1.Spot.Prev,L.sl 1 ([]++from_1.Spot.Times),L.arr .u64 4 from_1.Work,L.ptr x1,L.int .i64 1,L.int .i64 0,L.int .i64 size_3,L.own true 68 []]) (List.length st3) [L.int .i64 p_0.Limit,L.int .i64 p_0.Interval,L.int .i64 p_0.Spacing,L.int .i64 p_0.Future,L.bool p_0.Easy,L.sl 2 ([]++p_0.Gates),L.sl 33 ([]++p_0.Checks),L.arr .u64 4 p_0.MinWork,L.arr .u64 4 p_0.Margin,L.int .i64 p_0.Genesis.Version,L.arr .u8 32 p_0.Genesis.Prev,L.arr .u8 32 p_0.Genesis.Root,L.int .i64 p_0.Genesis.Time,L.int .i64 p_0.Genesis.Bits,L.int .i64 p_0.Genesis.Nonce,L.int .i64 from_1.Spot.Point.Height,L.int .i64 from_1.Spot.Point.Bits,L.int .i64 from_1.Spot.Point.Time,L.int .i64 from_1.Spot.Point.First,L.int .i64 from_1.Spot.Point.Hard,L.arr .u8 32 from_1.Spot.Prev,L.sl 1 ([]++from_1.Spot.Times),L.arr .u64 4 from_1.Work,L.int .i64 from_1.Spot.Point.Height,L.int .i64 from_1.Spot.Point.Bits,L.int .i64 from_1.Spot.Point.Time,L.int .i64 from_1.Spot.Point.First,L.int .i64 from_1.Spot.Point.Hard,L.arr .u8 32 from_1.Spot.Prev,L.sl 1 ([]++from_1.Spot.Times),L.arr .u64 4 from_1.Work,L.ptr x1,L.int .i64 1,L.int .i64 x6,L.int .i64 size_3,L.own true 68 []])
theorem ZcC.snd {p_0:Zag} {from_1:Zdn} {plan_2:Zbj} {size_3 now_4:Int} {st:LL} {r:(Option Nat)×Int×LL} (h:ZcC N p_0 from_1 plan_2 size_3 now_4 st=some r):Snd Tryz.prog 102 [.agg p_0.ls,.agg from_1.ls,.agg plan_2.ls,oI size_3,oI now_4] st (ZcC.rs r) r.2.2:=
 sO ZcC.B Tryz.func102 fun g0 w0 R hE=>by
  unfold ZcC at h
  obtain ⟨⟨x1,x2,st3⟩,c1,h1⟩:=Zad h
  let o1:List PS:=[.r [],.r [(1,{rs:=[.one (L.ptr x1),oI x2],st:=st3})]]
  have t1 {Q:Prop} (q:Q):=aI (ZdI.snd c1) q
  refine iteB h1 (fun c2 h2=>?_) (fun c2 h3=>?_)
  ·obtain rfl:=Zac h2
   exact af fol hE (o1 ++ [.r [(3,wF),(4,wF),(7,wF),(8,wF),(11,wF),(12,wF),(15,wF),(16,wF),(19,wF),(20,wF),(21,wF)],.c true,.r []]) [] 0 [] (t1 (aO c2 c2 c2 eT eT eT eT (aO eT eT eT eT eT eT eT (aJ eT eT eT))))
  ·have t2 {Q:Prop} (q:Q):=t1 (aK c2 c2 c2 q)
   refine iteB h3 (fun c3 h4=>?_) (fun c3 h5=>?_)
   ·obtain rfl:=Zac h4
    exact af fol hE (o1 ++ [.r [(5,yF),(7,wF),(8,wF),(11,wF),(12,wF),(15,wF),(16,wF),(19,wF),(20,wF),(21,wF)],.c true,.r []]) [] 0 [] (t2 (aO c3 c3 c3 eT eT eT eT (aN eT eT eT eT eT eT eT)))
   ·have t3 {Q:Prop} (q:Q):=t2 (aK c3 c3 c3 q)
    refine iteB h5 (fun c4 h6=>?_) (fun c4 h7=>?_)
    ·obtain rfl:=Zac h6
     exact af fol hE (o1 ++ [.r [(5,yF),(9,yF),(11,wF),(12,wF),(15,wF),(16,wF),(19,wF),(20,wF),(21,wF)],.c true,.r []]) [] 0 [] (t3 (aO c4 c4 c4 eT eT eT eT (aK eT eT eT eT)))
    ·refine iteB h7 (fun c5 h8=>?_) (fun c5 h9=>?_)
     ·obtain rfl:=Zac h8
      exact af fol hE (o1 ++ [.r [(5,yF),(9,yF),(13,yF),(15,wF),(16,wF),(19,wF),(20,wF),(21,wF)],.c true,.r []]) [] 0 [] (t3 (aO c4 c4 c4 c5 c5 c5 eT (aK eT eT eT eT)))
     ·have t4 {Q:Prop} (q:Q):=t3 (aN c4 c4 c4 c5 c5 c5 q)
      refine iteB h9 (fun c6 h10=>?_) (fun c6 h11=>?_)
      ·obtain rfl:=Zac h10
       exact af fol hE (o1 ++ [.r [(5,yF),(9,yF),(13,yF),(17,yF),(19,wF),(20,wF),(21,wF)],.c true,.r []]) [] 0 [] (t4 (aL c6 c6 c6 c6 eT))
      ·obtain ⟨x4,c7,h12⟩:=Zad h11
       let o2:List PS:=o1 ++ [.r [(5,yF),(9,yF),(13,yF),(17,yF),(20,q1 [oB x4]),(22,yF)]]
       refine iteB h12 (fun c8 h13=>?_) (fun c8 h14=>?_)
       ·obtain rfl:=Zac h13
        exact af fol hE (o2 ++ [.c true,.r []]) [] 0 [] (t4 (aM c6 c6 (Zbw.snd c7) c6 c6 c8))
       ·obtain ⟨c9,c10,c11,h15⟩:=ck3 h14
        obtain ⟨x5,c12,h16⟩:=Zad h15
        obtain ⟨x6,c13,h17⟩:=Zad h16
        obtain rfl:=Zac h17
        exact afd fol hE (o2 ++ [.c false,.d {ds:=[(7,{fz:=[45]}),(9,{fz:=[48]})],hv:=676,Hs:=[4,36,164,676]},.r [(8,{ns:=[35]}),(9,{m:=1})],.r [(9,{oc:=[L.int .i64 p_0.Limit,L.int .i64 p_0.Interval,L.int .i64 p_0.Spacing,L.int .i64 p_0.Future,L.bool p_0.Easy,L.sl 2 ([]++p_0.Gates),L.sl 33 ([]++p_0.Checks),L.arr .u64 4 p_0.MinWork,L.arr .u64 4 p_0.Margin,L.int .i64 p_0.Genesis.Version,L.arr .u8 32 p_0.Genesis.Prev,L.arr .u8 32 p_0.Genesis.Root,L.int .i64 p_0.Genesis.Time,L.int .i64 p_0.Genesis.Bits,L.int .i64 p_0.Genesis.Nonce,L.int .i64 from_1.Spot.Point.Height,L.int .i64 from_1.Spot.Point.Bits,L.int .i64 from_1.Spot.Point.Time,L.int .i64 from_1.Spot.Point.First,L.int .i64 from_1.Spot.Point.Hard,L.arr .u8 32 from_1.Spot.Prev,L.sl 1 from_1.Spot.Times,L.arr .u64 4 from_1.Work,L.int .i64 0,L.int .i64 0,L.int .i64 0,L.int .i64 0,L.int .i64 0,L.arr .u8 32 (List.replicate 32 0),L.sl 1 [],L.arr .u64 4 (List.replicate 4 0),L.ptr x1,L.int .i64 1,L.int .i64 0,L.int .i64 size_3,L.own true 68 []],fz:=[65]})],.r [(4,{oc:=[L.int .i64 p_0.Limit,L.int .i64 p_0.Interval,L.int .i64 p_0.Spacing,L.int .i64 p_0.Future,L.bool p_0.Easy,L.sl 2 ([]++p_0.Gates),L.sl 33 ([]++p_0.Checks),L.arr .u64 4 p_0.MinWork,L.arr .u64 4 p_0.Margin,L.int .i64 p_0.Genesis.Version,L.arr .u8 32 p_0.Genesis.Prev,L.arr .u8 32 p_0.Genesis.Root,L.int .i64 p_0.Genesis.Time,L.int .i64 p_0.Genesis.Bits,L.int .i64 p_0.Genesis.Nonce,L.int .i64 from_1.Spot.Point.Height,L.int .i64 from_1.Spot.Point.Bits,L.int .i64 from_1.Spot.Point.Time,L.int .i64 from_1.Spot.Point.First,L.int .i64 from_1.Spot.Point.Hard,L.arr .u8 32 from_1.Spot.Prev,L.sl 1 ([]++from_1.Spot.Times),L.arr .u64 4 from_1.Work,L.int .i64 0,L.int .i64 0,L.int .i64 0,L.int .i64 0,L.int .i64 0,L.arr .u8 32 (List.replicate 32 0),L.sl 1 [],L.arr .u64 4 (List.replicate 4 0),L.ptr x1,L.int .i64 1,L.int .i64 0,L.int .i64 size_3,L.own true 68 []]}),(7,{oc:=[L.int .i64 p_0.Limit,L.int .i64 p_0.Interval,L.int .i64 p_0.Spacing,L.int .i64 p_0.Future,L.bool p_0.Easy,L.sl 2 ([]++p_0.Gates),L.sl 33 ([]++p_0.Checks),L.arr .u64 4 p_0.MinWork,L.arr .u64 4 p_0.Margin,L.int .i64 p_0.Genesis.Version,L.arr .u8 32 p_0.Genesis.Prev,L.arr .u8 32 p_0.Genesis.Root,L.int .i64 p_0.Genesis.Time,L.int .i64 p_0.Genesis.Bits,L.int .i64 p_0.Genesis.Nonce,L.int .i64 from_1.Spot.Point.Height,L.int .i64 from_1.Spot.Point.Bits,L.int .i64 from_1.Spot.Point.Time,L.int .i64 from_1.Spot.Point.First,L.int .i64 from_1.Spot.Point.Hard,L.arr .u8 32 from_1.Spot.Prev,L.sl 1 ([]++from_1.Spot.Times),L.arr .u64 4 from_1.Work,L.int .i64 0,L.int .i64 0,L.int .i64 0,L.int .i64 0,L.int .i64 0,L.arr .u8 32 (List.replicate 32 0),L.sl 1 [],L.arr .u64 4 (List.replicate 4 0),L.ptr x1,L.int .i64 1,L.int .i64 0,L.int .i64 size_3,L.own true 68 []]})],.d {ds:=[(9,q1 [oI x5]),(12,q1 [oI x6]),(15,{oc:=[L.int .i64 p_0.Limit,L.int .i64 p_0.Interval,L.int .i64 p_0.Spacing,L.int .i64 p_0.Future,L.bool p_0.Easy,L.sl 2 ([]++p_0.Gates),L.sl 33 ([]++p_0.Checks),L.arr .u64 4 p_0.MinWork,L.arr .u64 4 p_0.Margin,L.int .i64 p_0.Genesis.Version,L.arr .u8 32 p_0.Genesis.Prev,L.arr .u8 32 p_0.Genesis.Root,L.int .i64 p_0.Genesis.Time,L.int .i64 p_0.Genesis.Bits,L.int .i64 p_0.Genesis.Nonce,L.int .i64 from_1.Spot.Point.Height,L.int .i64 from_1.Spot.Point.Bits,L.int .i64 from_1.Spot.Point.Time,L.int .i64 from_1.Spot.Point.First,L.int .i64 from_1.Spot.Point.Hard,L.arr .u8 32 from_1.Spot.Prev,L.sl 1 ([]++from_1.Spot.Times),L.arr .u64 4 from_1.Work,L.int .i64 from_1.Spot.Point.Height,L.int .i64 from_1.Spot.Point.Bits,L.int .i64 from_1.Spot.Point.Time,L.int .i64 from_1.Spot.Point.First,L.int .i64 from_1.Spot.Point.Hard,L.arr .u8 32 from_1.Spot.Prev,L.sl 1 ([]++from_1.Spot.Times),L.arr .u64 4 from_1.Work,L.ptr x1,L.int .i64 1,L.int .i64 0,L.int .i64 size_3,L.own true 68 []]})],hv:=32768,Hs:=[32768]},.r []]) [] 0 [] (t4 (aO c6 c6 (Zbw.snd c7) c6 c6 c8 c9 (aO c10 z0 (eN (List.length ([]++p_0.Gates))) z0 (eN (List.length ([]++p_0.Checks))) c11 (ZkZ st3 [L.int .i64 p_0.Limit,L.int .i64 p_0.Interval,L.int .i64 p_0.Spacing,L.int .i64 p_0.Future,L.bool p_0.Easy,L.sl 2 ([]++p_0.Gates),L.sl 33 ([]++p_0.Checks),L.arr .u64 4 p_0.MinWork,L.arr .u64 4 p_0.Margin,L.int .i64 p_0.Genesis.Version,L.arr .u8 32 p_0.Genesis.Prev,L.arr .u8 32 p_0.Genesis.Root,L.int .i64 p_0.Genesis.Time,L.int .i64 p_0.Genesis.Bits,L.int .i64 p_0.Genesis.Nonce,L.int .i64 from_1.Spot.Point.Height,L.int .i64 from_1.Spot.Point.Bits,L.int .i64 from_1.Spot.Point.Time,L.int .i64 from_1.Spot.Point.First,L.int .i64 from_1.Spot.Point.Hard,L.arr .u8 32 from_1.Spot.Prev,L.sl 1 from_1.Spot.Times,L.arr .u64 4 from_1.Work,L.int .i64 0,L.int .i64 0,L.int .i64 0,L.int .i64 0,L.int .i64 0,L.arr .u8 32 (List.replicate 32 0),L.sl 1 [],L.arr .u64 4 (List.replicate 4 0),L.ptr x1,L.int .i64 1,L.int .i64 0,L.int .i64 size_3,L.own true 68 []]) (aN z0 (eN (List.length ([]++from_1.Spot.Times))) (Zcf (ZkZ st3 [L.int .i64 p_0.Limit,L.int .i64 p_0.Interval,L.int .i64 p_0.Spacing,L.int .i64 p_0.Future,L.bool p_0.Easy,L.sl 2 ([]++p_0.Gates),L.sl 33 ([]++p_0.Checks),L.arr .u64 4 p_0.MinWork,L.arr .u64 4 p_0.Margin,L.int .i64 p_0.Genesis.Version,L.arr .u8 32 p_0.Genesis.Prev,L.arr .u8 32 p_0.Genesis.Root,L.int .i64 p_0.Genesis.Time,L.int .i64 p_0.Genesis.Bits,L.int .i64 p_0.Genesis.Nonce,L.int .i64 from_1.Spot.Point.Height,L.int .i64 from_1.Spot.Point.Bits,L.int .i64 from_1.Spot.Point.Time,L.int .i64 from_1.Spot.Point.First,L.int .i64 from_1.Spot.Point.Hard,L.arr .u8 32 from_1.Spot.Prev,L.sl 1 from_1.Spot.Times,L.arr .u64 4 from_1.Work,L.int .i64 0,L.int .i64 0,L.int .i64 0,L.int .i64 0,L.int .i64 0,L.arr .u8 32 (List.replicate 32 0),L.sl 1 [],L.arr .u64 4 (List.replicate 4 0),L.ptr x1,L.int .i64 1,L.int .i64 0,L.int .i64 size_3,L.own true 68 []]) [L.int .i64 p_0.Limit,L.int .i64 p_0.Interval,L.int .i64 p_0.Spacing,L.int .i64 p_0.Future,L.bool p_0.Easy,L.sl 2 ([]++p_0.Gates),L.sl 33 ([]++p_0.Checks),L.arr .u64 4 p_0.MinWork,L.arr .u64 4 p_0.Margin,L.int .i64 p_0.Genesis.Version,L.arr .u8 32 p_0.Genesis.Prev,L.arr .u8 32 p_0.Genesis.Root,L.int .i64 p_0.Genesis.Time,L.int .i64 p_0.Genesis.Bits,L.int .i64 p_0.Genesis.Nonce,L.int .i64 from_1.Spot.Point.Height,L.int .i64 from_1.Spot.Point.Bits,L.int .i64 from_1.Spot.Point.Time,L.int .i64 from_1.Spot.Point.First,L.int .i64 from_1.Spot.Point.Hard,L.arr .u8 32 from_1.Spot.Prev,L.sl 1 ([]++from_1.Spot.Times),L.arr .u64 4 from_1.Work,L.int .i64 0,L.int .i64 0,L.int .i64 0,L.int .i64 0,L.int .i64 0,L.arr .u8 32 (List.replicate 32 0),L.sl 1 [],L.arr .u64 4 (List.replicate 4 0),L.ptr x1,L.int .i64 1,L.int .i64 0,L.int .i64 size_3,L.own true 68 []]) (Zcf (ZkZ st3 [L.int .i64 p_0.Limit,L.int .i64 p_0.Interval,L.int .i64 p_0.Spacing,L.int .i64 p_0.Future,L.bool p_0.Easy,L.sl 2 ([]++p_0.Gates),L.sl 33 ([]++p_0.Checks),L.arr .u64 4 p_0.MinWork,L.arr .u64 4 p_0.Margin,L.int .i64 p_0.Genesis.Version,L.arr .u8 32 p_0.Genesis.Prev,L.arr .u8 32 p_0.Genesis.Root,L.int .i64 p_0.Genesis.Time,L.int .i64 p_0.Genesis.Bits,L.int .i64 p_0.Genesis.Nonce,L.int .i64 from_1.Spot.Point.Height,L.int .i64 from_1.Spot.Point.Bits,L.int .i64 from_1.Spot.Point.Time,L.int .i64 from_1.Spot.Point.First,L.int .i64 from_1.Spot.Point.Hard,L.arr .u8 32 from_1.Spot.Prev,L.sl 1 from_1.Spot.Times,L.arr .u64 4 from_1.Work,L.int .i64 0,L.int .i64 0,L.int .i64 0,L.int .i64 0,L.int .i64 0,L.arr .u8 32 (List.replicate 32 0),L.sl 1 [],L.arr .u64 4 (List.replicate 4 0),L.ptr x1,L.int .i64 1,L.int .i64 0,L.int .i64 size_3,L.own true 68 []]) [L.int .i64 p_0.Limit,L.int .i64 p_0.Interval,L.int .i64 p_0.Spacing,L.int .i64 p_0.Future,L.bool p_0.Easy,L.sl 2 ([]++p_0.Gates),L.sl 33 ([]++p_0.Checks),L.arr .u64 4 p_0.MinWork,L.arr .u64 4 p_0.Margin,L.int .i64 p_0.Genesis.Version,L.arr .u8 32 p_0.Genesis.Prev,L.arr .u8 32 p_0.Genesis.Root,L.int .i64 p_0.Genesis.Time,L.int .i64 p_0.Genesis.Bits,L.int .i64 p_0.Genesis.Nonce,L.int .i64 from_1.Spot.Point.Height,L.int .i64 from_1.Spot.Point.Bits,L.int .i64 from_1.Spot.Point.Time,L.int .i64 from_1.Spot.Point.First,L.int .i64 from_1.Spot.Point.Hard,L.arr .u8 32 from_1.Spot.Prev,L.sl 1 ([]++from_1.Spot.Times),L.arr .u64 4 from_1.Work,L.int .i64 0,L.int .i64 0,L.int .i64 0,L.int .i64 0,L.int .i64 0,L.arr .u8 32 (List.replicate 32 0),L.sl 1 [],L.arr .u64 4 (List.replicate 4 0),L.ptr x1,L.int .i64 1,L.int .i64 0,L.int .i64 size_3,L.own true 68 []]) (Zdu.snd c12) (Zcm.snd c13) (Zcf (Zcf (ZkZ st3 [L.int .i64 p_0.Limit,L.int .i64 p_0.Interval,L.int .i64 p_0.Spacing,L.int .i64 p_0.Future,L.bool p_0.Easy,L.sl 2 ([]++p_0.Gates),L.sl 33 ([]++p_0.Checks),L.arr .u64 4 p_0.MinWork,L.arr .u64 4 p_0.Margin,L.int .i64 p_0.Genesis.Version,L.arr .u8 32 p_0.Genesis.Prev,L.arr .u8 32 p_0.Genesis.Root,L.int .i64 p_0.Genesis.Time,L.int .i64 p_0.Genesis.Bits,L.int .i64 p_0.Genesis.Nonce,L.int .i64 from_1.Spot.Point.Height,L.int .i64 from_1.Spot.Point.Bits,L.int .i64 from_1.Spot.Point.Time,L.int .i64 from_1.Spot.Point.First,L.int .i64 from_1.Spot.Point.Hard,L.arr .u8 32 from_1.Spot.Prev,L.sl 1 from_1.Spot.Times,L.arr .u64 4 from_1.Work,L.int .i64 0,L.int .i64 0,L.int .i64 0,L.int .i64 0,L.int .i64 0,L.arr .u8 32 (List.replicate 32 0),L.sl 1 [],L.arr .u64 4 (List.replicate 4 0),L.ptr x1,L.int .i64 1,L.int .i64 0,L.int .i64 size_3,L.own true 68 []]) [L.int .i64 p_0.Limit,L.int .i64 p_0.Interval,L.int .i64 p_0.Spacing,L.int .i64 p_0.Future,L.bool p_0.Easy,L.sl 2 ([]++p_0.Gates),L.sl 33 ([]++p_0.Checks),L.arr .u64 4 p_0.MinWork,L.arr .u64 4 p_0.Margin,L.int .i64 p_0.Genesis.Version,L.arr .u8 32 p_0.Genesis.Prev,L.arr .u8 32 p_0.Genesis.Root,L.int .i64 p_0.Genesis.Time,L.int .i64 p_0.Genesis.Bits,L.int .i64 p_0.Genesis.Nonce,L.int .i64 from_1.Spot.Point.Height,L.int .i64 from_1.Spot.Point.Bits,L.int .i64 from_1.Spot.Point.Time,L.int .i64 from_1.Spot.Point.First,L.int .i64 from_1.Spot.Point.Hard,L.arr .u8 32 from_1.Spot.Prev,L.sl 1 ([]++from_1.Spot.Times),L.arr .u64 4 from_1.Work,L.int .i64 0,L.int .i64 0,L.int .i64 0,L.int .i64 0,L.int .i64 0,L.arr .u8 32 (List.replicate 32 0),L.sl 1 [],L.arr .u64 4 (List.replicate 4 0),L.ptr x1,L.int .i64 1,L.int .i64 0,L.int .i64 size_3,L.own true 68 []]) [L.int .i64 p_0.Limit,L.int .i64 p_0.Interval,L.int .i64 p_0.Spacing,L.int .i64 p_0.Future,L.bool p_0.Easy,L.sl 2 ([]++p_0.Gates),L.sl 33 ([]++p_0.Checks),L.arr .u64 4 p_0.MinWork,L.arr .u64 4 p_0.Margin,L.int .i64 p_0.Genesis.Version,L.arr .u8 32 p_0.Genesis.Prev,L.arr .u8 32 p_0.Genesis.Root,L.int .i64 p_0.Genesis.Time,L.int .i64 p_0.Genesis.Bits,L.int .i64 p_0.Genesis.Nonce,L.int .i64 from_1.Spot.Point.Height,L.int .i64 from_1.Spot.Point.Bits,L.int .i64 from_1.Spot.Point.Time,L.int .i64 from_1.Spot.Point.First,L.int .i64 from_1.Spot.Point.Hard,L.arr .u8 32 from_1.Spot.Prev,L.sl 1 ([]++from_1.Spot.Times),L.arr .u64 4 from_1.Work,L.int .i64 from_1.Spot.Point.Height,L.int .i64 from_1.Spot.Point.Bits,L.int .i64 from_1.Spot.Point.Time,L.int .i64 from_1.Spot.Point.First,L.int .i64 from_1.Spot.Point.Hard,L.arr .u8 32 from_1.Spot.Prev,L.sl 1 ([]++from_1.Spot.Times),L.arr .u64 4 from_1.Work,L.ptr x1,L.int .i64 1,L.int .i64 0,L.int .i64 size_3,L.own true 68 []])))))
noncomputable def ZdN.B:Code:=Tryz.f213.body.getD .skip
noncomputable def ZdN.rs (r:Int):List CV:=[oI r]
noncomputable def ZdN (N:Nat) (p_0:Zag) (from_1 to_2:Int):Option Int:=
 some (if (w64 ((w64 (p_0.Interval*p_0.Spacing))*4))<(if (w64 (Int.tdiv (w64 (p_0.Interval*p_0.Spacing)) 4))>(w64 (to_2-from_1)) then (w64 (Int.tdiv (w64 (p_0.Interval*p_0.Spacing)) 4)) else (w64 (to_2-from_1))) then (w64 ((w64 (p_0.Interval*p_0.Spacing))*4)) else (if (w64 (Int.tdiv (w64 (p_0.Interval*p_0.Spacing)) 4))>(w64 (to_2-from_1)) then (w64 (Int.tdiv (w64 (p_0.Interval*p_0.Spacing)) 4)) else (w64 (to_2-from_1))))
theorem ZdN.snd {p_0:Zag} {from_1 to_2:Int} {r:Int} (h:ZdN N p_0 from_1 to_2=some r):SndQ Tryz.prog 213 [.agg p_0.ls,oI from_1,oI to_2] (ZdN.rs r):=fun st=>
 sO ZdN.B Tryz.func213 fun g0 w0 R hE=>by
  unfold ZdN at h
  obtain rfl:=Zac h
  exact af fol hE [.r [],.r [],.r []] [] 0 [] (neI 4)
noncomputable def Zau.B:Code:=Tryz.f222.body.getD .skip
noncomputable def Zau.rs (r:Int):List CV:=[oI r]
noncomputable def Zau.p3 (N:Nat) (x_5 n_6:Int):Option Int:=
 chk (0≤(v8 (x_5)))<|
 chk ((v8 (x_5))<((ByteArray.size (ByteArray.mk #[0,1,2,2,3,3,3,3,4,4,4,4,4,4,4,4,5,5,5,5,5,5,5,5,5,5,5,5,5,5,5,5,6,6,6,6,6,6,6,6,6,6,6,6,6,6,6,6,6,6,6,6,6,6,6,6,6,6,6,6,6,6,6,6,7,7,7,7,7,7,7,7,7,7,7,7,7,7,7,7,7,7,7,7,7,7,7,7,7,7,7,7,7,7,7,7,7,7,7,7,7,7,7,7,7,7,7,7,7,7,7,7,7,7,7,7,7,7,7,7,7,7,7,7,7,7,7,7,8,8,8,8,8,8,8,8,8,8,8,8,8,8,8,8,8,8,8,8,8,8,8,8,8,8,8,8,8,8,8,8,8,8,8,8,8,8,8,8,8,8,8,8,8,8,8,8,8,8,8,8,8,8,8,8,8,8,8,8,8,8,8,8,8,8,8,8,8,8,8,8,8,8,8,8,8,8,8,8,8,8,8,8,8,8,8,8,8,8,8,8,8,8,8,8,8,8,8,8,8,8,8,8,8,8,8,8,8,8,8,8,8,8,8,8,8,8,8,8,8,8,8,8,8,8,8,8]):Nat):Int))<|
 some (w64 (n_6+(w64 (((UInt8.toNat (List.getD (Array.toList (ByteArray.data (ByteArray.mk #[0,1,2,2,3,3,3,3,4,4,4,4,4,4,4,4,5,5,5,5,5,5,5,5,5,5,5,5,5,5,5,5,6,6,6,6,6,6,6,6,6,6,6,6,6,6,6,6,6,6,6,6,6,6,6,6,6,6,6,6,6,6,6,6,7,7,7,7,7,7,7,7,7,7,7,7,7,7,7,7,7,7,7,7,7,7,7,7,7,7,7,7,7,7,7,7,7,7,7,7,7,7,7,7,7,7,7,7,7,7,7,7,7,7,7,7,7,7,7,7,7,7,7,7,7,7,7,7,8,8,8,8,8,8,8,8,8,8,8,8,8,8,8,8,8,8,8,8,8,8,8,8,8,8,8,8,8,8,8,8,8,8,8,8,8,8,8,8,8,8,8,8,8,8,8,8,8,8,8,8,8,8,8,8,8,8,8,8,8,8,8,8,8,8,8,8,8,8,8,8,8,8,8,8,8,8,8,8,8,8,8,8,8,8,8,8,8,8,8,8,8,8,8,8,8,8,8,8,8,8,8,8,8,8,8,8,8,8,8,8,8,8,8,8,8,8,8,8,8,8,8,8,8,8,8,8]))) (Int.toNat (v8 (x_5))) 0):Nat):Int)))))
noncomputable def Zau.p2 (N:Nat) (x_3 n_4:Int):Option Int:=
 if (decide (x_3≥256))=true then
  Zau.p3 N (shrOf .u64 x_3 8) (w64 (n_4+8))
 else
 Zau.p3 N x_3 n_4
noncomputable def Zau.p1 (N:Nat) (x_1 n_2:Int):Option Int:=
 if (decide (x_1≥65536))=true then
  Zau.p2 N (shrOf .u64 x_1 16) (w64 (n_2+16))
 else
 Zau.p2 N x_1 n_2
noncomputable def Zau (N:Nat) (x_0:Int):Option Int:=
 if (decide (x_0≥4294967296))=true then
  Zau.p1 N (shrOf .u64 x_0 32) 32
 else
 Zau.p1 N x_0 0
noncomputable def Zau.p3.S (x_5 n_6:Int) (st:LL):S:=mkS 25 [(0,.one (.l (L.int .u64 x_5))),(2,sI n_6)] [] st
noncomputable def Zau.p2.S (x_3 n_4:Int) (st:LL):S:=mkS 25 [(0,.one (.l (L.int .u64 x_3))),(2,sI n_4)] [] st
noncomputable def Zau.p1.S (x_1 n_2:Int) (st:LL):S:=mkS 25 [(0,.one (.l (L.int .u64 x_1))),(2,sI n_2)] [] st
theorem Zau.p3_ok {x_5 n_6 st r} (h:Zau.p3 N x_5 n_6=some r) (hE:En Tryz.f222 g0 w0 (Zau.rs r) st R):At g0 w0 (Zau.p3.S x_5 n_6 st) (XK Tryz.prog R [.c (csub Zau.B [1,1,1,1])]):=by
 unfold Zau.p3 at h
 obtain ⟨c4,c5,h1⟩:=ck2 h
 obtain rfl:=Zac h1
 exact af fol hE [.r []] [] 0 [] (aI c4 c5)
theorem Zau.p2_ok {x_3 n_4 st r} (h:Zau.p2 N x_3 n_4=some r) (hE:En Tryz.f222 g0 w0 (Zau.rs r) st R):At g0 w0 (Zau.p2.S x_3 n_4 st) (XK Tryz.prog R [.c (csub Zau.B [1,1,1])]):=by
 unfold Zau.p2 at h
 refine iteB h (fun c3 h2=>?_) (fun c3 h3=>?_)
 ·exact aq fol [.r [],.c true,.r [],.r [],.s 1] [0,2] [] (aI c3 (leI 0 8)) (Zau.p3_ok h2 hE)
 ·exact aq fol [.r [],.c false,.s 1] [0,2] [] c3 (Zau.p3_ok h3 hE)
theorem Zau.p1_ok {x_1 n_2 st r} (h:Zau.p1 N x_1 n_2=some r) (hE:En Tryz.f222 g0 w0 (Zau.rs r) st R):At g0 w0 (Zau.p1.S x_1 n_2 st) (XK Tryz.prog R [.c (csub Zau.B [1,1])]):=by
 unfold Zau.p1 at h
 refine iteB h (fun c2 h4=>?_) (fun c2 h5=>?_)
 ·exact aq fol [.r [],.c true,.r [],.r [],.s 1] [0,2] [] (aI c2 (leI 0 16)) (Zau.p2_ok h4 hE)
 ·exact aq fol [.r [],.c false,.s 1] [0,2] [] c2 (Zau.p2_ok h5 hE)
theorem Zau.snd {x_0:Int} {r:Int} (h:Zau N x_0=some r):SndQ Tryz.prog 222 [.one (L.int .u64 x_0)] (Zau.rs r):=fun st=>
 sO Zau.B Tryz.func222 fun g0 w0 R hE=>by
  unfold Zau at h
  refine iteB h (fun c1 h6=>?_) (fun c1 h7=>?_)
  ·exact aq fol [.r [],.r [],.c true,.r [],.r [],.s 1] [0,2] [] (aI c1 (leI 0 32)) (Zau.p1_ok h6 hE)
  ·exact aq fol [.r [],.r [],.c false,.s 1] [0,2] [] c1 (Zau.p1_ok h7 hE)
noncomputable def Zbx.B:Code:=Tryz.f238.body.getD .skip
noncomputable def Zbx.rs (r:Int):List CV:=[oI r]
noncomputable def Zbx (N:Nat) (x_0:Int):Option Int:=
 optE (Zau N x_0) fun x1=>
 some (w64 (64-x1))
theorem Zbx.snd {x_0:Int} {r:Int} (h:Zbx N x_0=some r):SndQ Tryz.prog 238 [.one (L.int .u64 x_0)] (Zbx.rs r):=fun st=>
 sO Zbx.B Tryz.func238 fun g0 w0 R hE=>by
  unfold Zbx at h
  obtain ⟨x1,c1,h1⟩:=Zad h
  obtain rfl:=Zac h1
  exact af fol hE [.r [],.r [(1,q1 [oI x1])]] [] 0 [] (Zau.snd c1)
noncomputable def Zaf.B:Code:=Tryz.f225.body.getD .skip
noncomputable def Zaf.rs (r:Int×Int):List CV:=[.one (L.int .u64 r.1),.one (L.int .u64 r.2)]
noncomputable def Zaf.p6 (N:Nat) (y_2 x1 lo_1 q1_4 hi_0 q0_7:Int):Option (Int×Int):=
 chk (0≤(v64 (x1)))<|
 some (v64 ((v64 (q1_4*4294967296))+q0_7),shrOf .u64 (v64 ((v64 ((v64 ((v64 ((v64 ((v64 ((bitsOf .or .u64 (shlOf .u64 hi_0 (v64 (x1))) (shrOf .u64 lo_1 (v64 (64-(v64 (x1))))))*4294967296))+(shrOf .u64 (shlOf .u64 lo_1 (v64 (x1))) 32)))-(v64 (q1_4*(shlOf .u64 y_2 (v64 (x1)))))))*4294967296))+(bitsOf .and .u64 (shlOf .u64 lo_1 (v64 (x1))) 4294967295)))-(v64 (q0_7*(shlOf .u64 y_2 (v64 (x1))))))) (v64 (x1)))
noncomputable def Zaf.p5 (N:Nat) (c4_:(Int×Int)→Option (Int×Int)) (y_2 x1 lo_1 q1_4 rhat_5 hi_0 q0_6:Int):Option (Int×Int):=
 if (decide ((v64 (rhat_5+(shrOf .u64 (shlOf .u64 y_2 (v64 (x1))) 32)))≥4294967296))=true then
  Zaf.p6 N y_2 x1 lo_1 q1_4 hi_0 (v64 (q0_6-1))
 else
 c4_ (v64 (rhat_5+(shrOf .u64 (shlOf .u64 y_2 (v64 (x1))) 32)),v64 (q0_6-1))
noncomputable def Zaf.p4 (N:Nat) (y_2 x1 lo_1 q1_4 hi_0:Int) (c4_:(Int×Int)→Option (Int×Int)):(Int×Int)→Option (Int×Int):=fun (rhat_5,q0_6)=>
 if (decide (q0_6≥4294967296))=true then
  Zaf.p5 N c4_ y_2 x1 lo_1 q1_4 rhat_5 hi_0 q0_6
 else
 if (decide ((v64 (q0_6*(bitsOf .and .u64 (shlOf .u64 y_2 (v64 (x1))) 4294967295)))>(v64 ((v64 (4294967296*rhat_5))+(bitsOf .and .u64 (shlOf .u64 lo_1 (v64 (x1))) 4294967295)))))=true then
  Zaf.p5 N c4_ y_2 x1 lo_1 q1_4 rhat_5 hi_0 q0_6
 else
 Zaf.p6 N y_2 x1 lo_1 q1_4 hi_0 q0_6
noncomputable def Zaf.p3 (N:Nat) (y_2 x1 hi_0 lo_1 q1_4:Int):Option (Int×Int):=
 chk ((shrOf .u64 (shlOf .u64 y_2 (v64 (x1))) 32)≠0)<|
 loopN (Zaf.p4 N y_2 x1 lo_1 q1_4 hi_0) N (v64 ((v64 ((v64 ((v64 ((bitsOf .or .u64 (shlOf .u64 hi_0 (v64 (x1))) (shrOf .u64 lo_1 (v64 (64-(v64 (x1))))))*4294967296))+(shrOf .u64 (shlOf .u64 lo_1 (v64 (x1))) 32)))-(v64 (q1_4*(shlOf .u64 y_2 (v64 (x1)))))))-(v64 ((v64 (Int.tdiv (v64 ((v64 ((v64 ((bitsOf .or .u64 (shlOf .u64 hi_0 (v64 (x1))) (shrOf .u64 lo_1 (v64 (64-(v64 (x1))))))*4294967296))+(shrOf .u64 (shlOf .u64 lo_1 (v64 (x1))) 32)))-(v64 (q1_4*(shlOf .u64 y_2 (v64 (x1))))))) (shrOf .u64 (shlOf .u64 y_2 (v64 (x1))) 32)))*(shrOf .u64 (shlOf .u64 y_2 (v64 (x1))) 32)))),v64 (Int.tdiv (v64 ((v64 ((v64 ((bitsOf .or .u64 (shlOf .u64 hi_0 (v64 (x1))) (shrOf .u64 lo_1 (v64 (64-(v64 (x1))))))*4294967296))+(shrOf .u64 (shlOf .u64 lo_1 (v64 (x1))) 32)))-(v64 (q1_4*(shlOf .u64 y_2 (v64 (x1))))))) (shrOf .u64 (shlOf .u64 y_2 (v64 (x1))) 32)))
noncomputable def Zaf.p2 (N:Nat) (c1_:(Int×Int)→Option (Int×Int)) (y_2 x1 hi_0 lo_1 q1_2 rhat_3:Int):Option (Int×Int):=
 if (decide ((v64 (rhat_3+(shrOf .u64 (shlOf .u64 y_2 (v64 (x1))) 32)))≥4294967296))=true then
  Zaf.p3 N y_2 x1 hi_0 lo_1 (v64 (q1_2-1))
 else
 c1_ (v64 (q1_2-1),v64 (rhat_3+(shrOf .u64 (shlOf .u64 y_2 (v64 (x1))) 32)))
noncomputable def Zaf.p1 (N:Nat) (y_2 x1 hi_0 lo_1:Int) (c1_:(Int×Int)→Option (Int×Int)):(Int×Int)→Option (Int×Int):=fun (q1_2,rhat_3)=>
 if (decide (q1_2≥4294967296))=true then
  Zaf.p2 N c1_ y_2 x1 hi_0 lo_1 q1_2 rhat_3
 else
 if (decide ((v64 (q1_2*(bitsOf .and .u64 (shlOf .u64 y_2 (v64 (x1))) 4294967295)))>(v64 ((v64 (4294967296*rhat_3))+(shrOf .u64 (shlOf .u64 lo_1 (v64 (x1))) 32)))))=true then
  Zaf.p2 N c1_ y_2 x1 hi_0 lo_1 q1_2 rhat_3
 else
 Zaf.p3 N y_2 x1 hi_0 lo_1 q1_2
noncomputable def Zaf (N:Nat) (hi_0 lo_1 y_2:Int):Option (Int×Int):=
 if (y_2==0)=true then
  none
 else
 if (decide (y_2≤hi_0))=true then
  none
 else
 if (hi_0==0)=true then
  chk (y_2≠0)<|
  some (v64 (Int.tdiv lo_1 y_2),Int.tmod lo_1 y_2)
 else
 optE (Zbx N y_2) fun x1=>
 chk (0≤(v64 (x1)))<|
 chk (0≤(v64 (64-(v64 (x1)))))<|
 chk ((shrOf .u64 (shlOf .u64 y_2 (v64 (x1))) 32)≠0)<|
 loopN (Zaf.p1 N y_2 x1 hi_0 lo_1) N (v64 (Int.tdiv (bitsOf .or .u64 (shlOf .u64 hi_0 (v64 (x1))) (shrOf .u64 lo_1 (v64 (64-(v64 (x1)))))) (shrOf .u64 (shlOf .u64 y_2 (v64 (x1))) 32)),v64 ((bitsOf .or .u64 (shlOf .u64 hi_0 (v64 (x1))) (shrOf .u64 lo_1 (v64 (64-(v64 (x1))))))-(v64 ((v64 (Int.tdiv (bitsOf .or .u64 (shlOf .u64 hi_0 (v64 (x1))) (shrOf .u64 lo_1 (v64 (64-(v64 (x1)))))) (shrOf .u64 (shlOf .u64 y_2 (v64 (x1))) 32)))*(shrOf .u64 (shlOf .u64 y_2 (v64 (x1))) 32)))))
noncomputable def Zaf.p6.S (y_2 x1 lo_1 q1_4 hi_0 q0_7:Int) (st:LL):S:=mkS 135 [(2,.one (.l (L.int .u64 (shlOf .u64 y_2 (v64 (x1)))))),(8,.one (.l (L.int .u64 (v64 (x1))))),(14,.one (.l (L.int .u64 (bitsOf .and .u64 (shlOf .u64 lo_1 (v64 (x1))) 4294967295)))),(15,.one (.l (L.int .u64 q1_4))),(17,.one (.l (L.int .u64 (v64 ((v64 ((v64 ((bitsOf .or .u64 (shlOf .u64 hi_0 (v64 (x1))) (shrOf .u64 lo_1 (v64 (64-(v64 (x1))))))*4294967296))+(shrOf .u64 (shlOf .u64 lo_1 (v64 (x1))) 32)))-(v64 (q1_4*(shlOf .u64 y_2 (v64 (x1)))))))))),(18,.one (.l (L.int .u64 q0_7)))] [] st
noncomputable def Zaf.p5.S (y_2 x1 lo_1 q1_4 rhat_5 hi_0 q0_6:Int) (st:LL):S:=mkS 135 [(2,.one (.l (L.int .u64 (shlOf .u64 y_2 (v64 (x1)))))),(8,.one (.l (L.int .u64 (v64 (x1))))),(9,.one (.l (L.int .u64 (shrOf .u64 (shlOf .u64 y_2 (v64 (x1))) 32)))),(10,.one (.l (L.int .u64 (bitsOf .and .u64 (shlOf .u64 y_2 (v64 (x1))) 4294967295)))),(14,.one (.l (L.int .u64 (bitsOf .and .u64 (shlOf .u64 lo_1 (v64 (x1))) 4294967295)))),(15,.one (.l (L.int .u64 q1_4))),(16,.one (.l (L.int .u64 rhat_5))),(17,.one (.l (L.int .u64 (v64 ((v64 ((v64 ((bitsOf .or .u64 (shlOf .u64 hi_0 (v64 (x1))) (shrOf .u64 lo_1 (v64 (64-(v64 (x1))))))*4294967296))+(shrOf .u64 (shlOf .u64 lo_1 (v64 (x1))) 32)))-(v64 (q1_4*(shlOf .u64 y_2 (v64 (x1)))))))))),(18,.one (.l (L.int .u64 q0_6)))] [] st
noncomputable def Zaf.p4.S (y_2 x1 lo_1 q1_4 rhat_5 hi_0 q0_6:Int) (st:LL):S:=mkS 135 [(2,.one (.l (L.int .u64 (shlOf .u64 y_2 (v64 (x1)))))),(8,.one (.l (L.int .u64 (v64 (x1))))),(9,.one (.l (L.int .u64 (shrOf .u64 (shlOf .u64 y_2 (v64 (x1))) 32)))),(10,.one (.l (L.int .u64 (bitsOf .and .u64 (shlOf .u64 y_2 (v64 (x1))) 4294967295)))),(14,.one (.l (L.int .u64 (bitsOf .and .u64 (shlOf .u64 lo_1 (v64 (x1))) 4294967295)))),(15,.one (.l (L.int .u64 q1_4))),(16,.one (.l (L.int .u64 rhat_5))),(17,.one (.l (L.int .u64 (v64 ((v64 ((v64 ((bitsOf .or .u64 (shlOf .u64 hi_0 (v64 (x1))) (shrOf .u64 lo_1 (v64 (64-(v64 (x1))))))*4294967296))+(shrOf .u64 (shlOf .u64 lo_1 (v64 (x1))) 32)))-(v64 (q1_4*(shlOf .u64 y_2 (v64 (x1)))))))))),(18,.one (.l (L.int .u64 q0_6)))] [] st
noncomputable def Zaf.p3.S (y_2 x1 hi_0 lo_1 q1_4:Int) (st:LL):S:=mkS 135 [(2,.one (.l (L.int .u64 (shlOf .u64 y_2 (v64 (x1)))))),(8,.one (.l (L.int .u64 (v64 (x1))))),(9,.one (.l (L.int .u64 (shrOf .u64 (shlOf .u64 y_2 (v64 (x1))) 32)))),(10,.one (.l (L.int .u64 (bitsOf .and .u64 (shlOf .u64 y_2 (v64 (x1))) 4294967295)))),(11,.one (.l (L.int .u64 (bitsOf .or .u64 (shlOf .u64 hi_0 (v64 (x1))) (shrOf .u64 lo_1 (v64 (64-(v64 (x1))))))))),(13,.one (.l (L.int .u64 (shrOf .u64 (shlOf .u64 lo_1 (v64 (x1))) 32)))),(14,.one (.l (L.int .u64 (bitsOf .and .u64 (shlOf .u64 lo_1 (v64 (x1))) 4294967295)))),(15,.one (.l (L.int .u64 q1_4)))] [] st
noncomputable def Zaf.p2.S (y_2 x1 hi_0 lo_1 q1_2 rhat_3:Int) (st:LL):S:=mkS 135 [(2,.one (.l (L.int .u64 (shlOf .u64 y_2 (v64 (x1)))))),(8,.one (.l (L.int .u64 (v64 (x1))))),(9,.one (.l (L.int .u64 (shrOf .u64 (shlOf .u64 y_2 (v64 (x1))) 32)))),(10,.one (.l (L.int .u64 (bitsOf .and .u64 (shlOf .u64 y_2 (v64 (x1))) 4294967295)))),(11,.one (.l (L.int .u64 (bitsOf .or .u64 (shlOf .u64 hi_0 (v64 (x1))) (shrOf .u64 lo_1 (v64 (64-(v64 (x1))))))))),(13,.one (.l (L.int .u64 (shrOf .u64 (shlOf .u64 lo_1 (v64 (x1))) 32)))),(14,.one (.l (L.int .u64 (bitsOf .and .u64 (shlOf .u64 lo_1 (v64 (x1))) 4294967295)))),(15,.one (.l (L.int .u64 q1_2))),(16,.one (.l (L.int .u64 rhat_3)))] [] st
noncomputable def Zaf.p1.S (y_2 x1 hi_0 lo_1 q1_2 rhat_3:Int) (st:LL):S:=mkS 135 [(2,.one (.l (L.int .u64 (shlOf .u64 y_2 (v64 (x1)))))),(8,.one (.l (L.int .u64 (v64 (x1))))),(9,.one (.l (L.int .u64 (shrOf .u64 (shlOf .u64 y_2 (v64 (x1))) 32)))),(10,.one (.l (L.int .u64 (bitsOf .and .u64 (shlOf .u64 y_2 (v64 (x1))) 4294967295)))),(11,.one (.l (L.int .u64 (bitsOf .or .u64 (shlOf .u64 hi_0 (v64 (x1))) (shrOf .u64 lo_1 (v64 (64-(v64 (x1))))))))),(13,.one (.l (L.int .u64 (shrOf .u64 (shlOf .u64 lo_1 (v64 (x1))) 32)))),(14,.one (.l (L.int .u64 (bitsOf .and .u64 (shlOf .u64 lo_1 (v64 (x1))) 4294967295)))),(15,.one (.l (L.int .u64 q1_2))),(16,.one (.l (L.int .u64 rhat_3)))] [] st
theorem Zaf.p6_ok {y_2 x1 lo_1 q1_4 hi_0 q0_7 st r} (h:Zaf.p6 N y_2 x1 lo_1 q1_4 hi_0 q0_7=some r) (hE:En Tryz.f225 g0 w0 (Zaf.rs r) st R):At g0 w0 (Zaf.p6.S y_2 x1 lo_1 q1_4 hi_0 q0_7 st) (XK Tryz.prog R [.c (csub Zaf.B [1,1,1,1,1,1,1,1,1,1,1,1,1,1,1,1,1,1,1])]):=by
 unfold Zaf.p6 at h
 obtain ⟨c16,h1⟩:=ZaN h
 obtain rfl:=Zac h1
 exact af fol hE [.r []] [] 0 [] c16
theorem Zaf.p5_ok {y_2 x1 lo_1 q1_4 rhat_5 hi_0 q0_6 st r c4_ J4} (h:Zaf.p5 N c4_ y_2 x1 lo_1 q1_4 rhat_5 hi_0 q0_6=some r) (hE:En Tryz.f225 g0 w0 (Zaf.rs r) st R) (hc4 : ∀rhat_5 q0_6,c4_ (rhat_5,q0_6)=some r→At g0 w0 (Zaf.p4.S y_2 x1 lo_1 q1_4 rhat_5 hi_0 q0_6 st) J4):At g0 w0 (Zaf.p5.S y_2 x1 lo_1 q1_4 rhat_5 hi_0 q0_6 st) (XK Tryz.prog R [.c (csub Zaf.B [1,1,1,1,1,1,1,1,1,1,1,1,1,1,1,1,1,1,0,0,0,1]),.h J4,.b 2,.c (csub Zaf.B [1,1,1,1,1,1,1,1,1,1,1,1,1,1,1,1,1,1,1])]):=by
 unfold Zaf.p5 at h
 refine iteB h (fun c15 h2=>?_) (fun c15 h3=>?_)
 ·exact aq fol [.r [],.r [],.r [],.c true,.s 1] [2,8,14,15,17,18] [] c15 (Zaf.p6_ok h2 hE)
 ·exact an fol [.r [],.r [],.r [],.c false] [2,8,9,10,14,15,16,17,18] [] c15 (hc4 (v64 (rhat_5+(shrOf .u64 (shlOf .u64 y_2 (v64 (x1))) 32))) (v64 (q0_6-1)) h3)
theorem Zaf.p4_ok {y_2 x1 lo_1 q1_4 rhat_5 hi_0 q0_6 st r c4_ J4} (h:Zaf.p4 N y_2 x1 lo_1 q1_4 hi_0 c4_ (rhat_5,q0_6)=some r) (hE:En Tryz.f225 g0 w0 (Zaf.rs r) st R) (hc4 : ∀rhat_5 q0_6,c4_ (rhat_5,q0_6)=some r→At g0 w0 (Zaf.p4.S y_2 x1 lo_1 q1_4 rhat_5 hi_0 q0_6 st) J4):At g0 w0 (Zaf.p4.S y_2 x1 lo_1 q1_4 rhat_5 hi_0 q0_6 st) (XK Tryz.prog R (.c (csub Zaf.B [1,1,1,1,1,1,1,1,1,1,1,1,1,1,1,1,1,1,0,0,0]) :: .h J4 :: [.b 2,.c (csub Zaf.B [1,1,1,1,1,1,1,1,1,1,1,1,1,1,1,1,1,1,1])])):=by
 unfold Zaf.p4 at h
 refine iteB h (fun c13 h4=>?_) (fun c13 h5=>?_)
 ·exact aq fol [.r [(3,wF),(4,wF),(5,wF),(6,wF),(7,wF),(8,wF),(9,wF),(10,wF)],.c true,.s 4] [2,8,9,10,14,15,16,17,18] [] (aO c13 c13 c13 c13 c13 c13 c13 (aJ c13 c13 eT)) (Zaf.p5_ok h4 hE hc4)
 ·have t1 {Q:Prop} (q:Q):=aO c13 c13 c13 c13 c13 c13 c13 (aJ c13 c13 q)
  refine iteB h5 (fun c14 h6=>?_) (fun c14 h7=>?_)
  ·exact aq fol [.r [(11,yF)],.c true,.s 4] [2,8,9,10,14,15,16,17,18] [] (t1 c14) (Zaf.p5_ok h6 hE hc4)
  ·exact aq fol [.r [(11,yF)],.c false,.s 1] [2,8,14,15,17,18] [] (t1 c14) (Zaf.p6_ok h7 hE)
theorem Zaf.p3_ok {y_2 x1 hi_0 lo_1 q1_4 st r} (h:Zaf.p3 N y_2 x1 hi_0 lo_1 q1_4=some r) (hE:En Tryz.f225 g0 w0 (Zaf.rs r) st R):At g0 w0 (Zaf.p3.S y_2 x1 hi_0 lo_1 q1_4 st) (XK Tryz.prog R [.c (csub Zaf.B [1,1,1,1,1,1,1,1,1,1,1,1,1,1,1])]):=by
 unfold Zaf.p3 at h
 obtain ⟨c12,h8⟩:=ZaN h
 exact aq fol [.r [],.r [],.r []] [2,8,9,10,14,15,16,17,18] [] c12 (At.loop N (At.loopN (fun y:Int×Int=>Zaf.p4.S y_2 x1 lo_1 q1_4 y.1 hi_0 y.2 st) (fun c J hc y h=>Zaf.p4_ok (rhat_5:=y.1) (q0_6:=y.2) h hE (fun rhat_5 q0_6=>hc (rhat_5,q0_6))) N (v64 ((v64 ((v64 ((v64 ((bitsOf .or .u64 (shlOf .u64 hi_0 (v64 (x1))) (shrOf .u64 lo_1 (v64 (64-(v64 (x1))))))*4294967296))+(shrOf .u64 (shlOf .u64 lo_1 (v64 (x1))) 32)))-(v64 (q1_4*(shlOf .u64 y_2 (v64 (x1)))))))-(v64 ((v64 (Int.tdiv (v64 ((v64 ((v64 ((bitsOf .or .u64 (shlOf .u64 hi_0 (v64 (x1))) (shrOf .u64 lo_1 (v64 (64-(v64 (x1))))))*4294967296))+(shrOf .u64 (shlOf .u64 lo_1 (v64 (x1))) 32)))-(v64 (q1_4*(shlOf .u64 y_2 (v64 (x1))))))) (shrOf .u64 (shlOf .u64 y_2 (v64 (x1))) 32)))*(shrOf .u64 (shlOf .u64 y_2 (v64 (x1))) 32)))),v64 (Int.tdiv (v64 ((v64 ((v64 ((bitsOf .or .u64 (shlOf .u64 hi_0 (v64 (x1))) (shrOf .u64 lo_1 (v64 (64-(v64 (x1))))))*4294967296))+(shrOf .u64 (shlOf .u64 lo_1 (v64 (x1))) 32)))-(v64 (q1_4*(shlOf .u64 y_2 (v64 (x1))))))) (shrOf .u64 (shlOf .u64 y_2 (v64 (x1))) 32))) h8))
theorem Zaf.p2_ok {y_2 x1 hi_0 lo_1 q1_2 rhat_3 st r c1_ J1} (h:Zaf.p2 N c1_ y_2 x1 hi_0 lo_1 q1_2 rhat_3=some r) (hE:En Tryz.f225 g0 w0 (Zaf.rs r) st R) (hc1 : ∀q1_2 rhat_3,c1_ (q1_2,rhat_3)=some r→At g0 w0 (Zaf.p1.S y_2 x1 hi_0 lo_1 q1_2 rhat_3 st) J1):At g0 w0 (Zaf.p2.S y_2 x1 hi_0 lo_1 q1_2 rhat_3 st) (XK Tryz.prog R [.c (csub Zaf.B [1,1,1,1,1,1,1,1,1,1,1,1,1,1,0,0,0,1]),.h J1,.b 0,.c (csub Zaf.B [1,1,1,1,1,1,1,1,1,1,1,1,1,1,1])]):=by
 unfold Zaf.p2 at h
 refine iteB h (fun c11 h9=>?_) (fun c11 h10=>?_)
 ·exact aq fol [.r [],.r [],.r [],.c true,.s 1] [2,8,9,10,11,13,14,15] [] c11 (Zaf.p3_ok h9 hE)
 ·exact an fol [.r [],.r [],.r [],.c false] [2,8,9,10,11,13,14,15,16] [] c11 (hc1 (v64 (q1_2-1)) (v64 (rhat_3+(shrOf .u64 (shlOf .u64 y_2 (v64 (x1))) 32))) h10)
theorem Zaf.p1_ok {y_2 x1 hi_0 lo_1 q1_2 rhat_3 st r c1_ J1} (h:Zaf.p1 N y_2 x1 hi_0 lo_1 c1_ (q1_2,rhat_3)=some r) (hE:En Tryz.f225 g0 w0 (Zaf.rs r) st R) (hc1 : ∀q1_2 rhat_3,c1_ (q1_2,rhat_3)=some r→At g0 w0 (Zaf.p1.S y_2 x1 hi_0 lo_1 q1_2 rhat_3 st) J1):At g0 w0 (Zaf.p1.S y_2 x1 hi_0 lo_1 q1_2 rhat_3 st) (XK Tryz.prog R (.c (csub Zaf.B [1,1,1,1,1,1,1,1,1,1,1,1,1,1,0,0,0]) :: .h J1 :: [.b 0,.c (csub Zaf.B [1,1,1,1,1,1,1,1,1,1,1,1,1,1,1])])):=by
 unfold Zaf.p1 at h
 refine iteB h (fun c9 h11=>?_) (fun c9 h12=>?_)
 ·exact aq fol [.r [(3,wF),(4,wF),(5,wF),(6,wF),(7,wF),(8,wF),(9,wF),(10,wF)],.c true,.s 4] [2,8,9,10,11,13,14,15,16] [] (aO c9 c9 c9 c9 c9 c9 c9 (aJ c9 c9 eT)) (Zaf.p2_ok h11 hE hc1)
 ·refine iteB h12 (fun c10 h13=>?_) (fun c10 h14=>?_)
  ·exact aq fol [.r [(11,yF)],.c true,.s 4] [2,8,9,10,11,13,14,15,16] [] (aO c9 c9 c9 c9 c9 c9 c9 (aJ c9 c9 c10)) (Zaf.p2_ok h13 hE hc1)
  ·exact aq fol [.r [(11,yF)],.c false,.s 1] [2,8,9,10,11,13,14,15] [] (aO c9 c9 c9 c9 c9 c9 c9 (aJ c9 c9 c10)) (Zaf.p3_ok h14 hE)
theorem Zaf.snd {hi_0 lo_1 y_2:Int} {r:Int×Int} (h:Zaf N hi_0 lo_1 y_2=some r):SndQ Tryz.prog 225 [.one (L.int .u64 hi_0),.one (L.int .u64 lo_1),.one (L.int .u64 y_2)] (Zaf.rs r):=fun st=>
 sO Zaf.B Tryz.func225 fun g0 w0 R hE=>by
  unfold Zaf at h
  let o1:List PS:=[.r [],.r [],.c false,.r [],.c false,.r []]
  refine iteB h (fun c1 h15=>?_) (fun c1 h16=>?_)
  ·cases h15
  ·refine iteB h16 (fun c2 h17=>?_) (fun c2 h18=>?_)
   ·cases h17
   ·refine iteB h18 (fun c3 h19=>?_) (fun c3 h20=>?_)
    ·obtain ⟨c4,h21⟩:=ZaN h19
     obtain rfl:=Zac h21
     exact afd fol hE (o1 ++ [.c true,.d {ds:=[],hv:=0,Hs:=[]}]) [] 0 [] (aL c1 c2 c3 c4 c4)
    ·obtain ⟨x1,c5,h22⟩:=Zad h20
     obtain ⟨c6,c7,c8,h23⟩:=ck3 h22
     exact aq fol (o1 ++ [.c false,.r [(1,q1 [oI x1])],.r [],.r [],.r [],.r [],.r [],.r [],.r [],.r [],.r []]) [2,8,9,10,11,13,14,15,16] [] (aO c1 c2 c3 (Zbx.snd c5) c6 (leI 0 32) c6 (aK c7 c6 (leI 0 32) c8)) (At.loop N (At.loopN (fun y:Int×Int=>Zaf.p1.S y_2 x1 hi_0 lo_1 y.1 y.2 st) (fun c J hc y h=>Zaf.p1_ok (q1_2:=y.1) (rhat_3:=y.2) h hE (fun q1_2 rhat_3=>hc (q1_2,rhat_3))) N (v64 (Int.tdiv (bitsOf .or .u64 (shlOf .u64 hi_0 (v64 (x1))) (shrOf .u64 lo_1 (v64 (64-(v64 (x1)))))) (shrOf .u64 (shlOf .u64 y_2 (v64 (x1))) 32)),v64 ((bitsOf .or .u64 (shlOf .u64 hi_0 (v64 (x1))) (shrOf .u64 lo_1 (v64 (64-(v64 (x1))))))-(v64 ((v64 (Int.tdiv (bitsOf .or .u64 (shlOf .u64 hi_0 (v64 (x1))) (shrOf .u64 lo_1 (v64 (64-(v64 (x1)))))) (shrOf .u64 (shlOf .u64 y_2 (v64 (x1))) 32)))*(shrOf .u64 (shlOf .u64 y_2 (v64 (x1))) 32))))) h23))
noncomputable def ZbR.B:Code:=Tryz.f214.body.getD .skip
noncomputable def ZbR.rs (r:(List Int)×Int):List CV:=[.agg [L.arr .u64 4 r.1],.one (L.int .u64 r.2)]
noncomputable def ZbR.p1 (N:Nat) (by_1:Int) (c1_:(Int×Int×(List Int))→Option ((List Int)×Int)):(Int×Int×(List Int))→Option ((List Int)×Int):=fun (r_1,i_2,a_5)=>
 if (decide (i_2≥0))=true then
  chk (0≤i_2)<|
  chk (i_2<4)<|
  optE (Zaf N r_1 (List.getD a_5 (Int.toNat i_2) 0) by_1) fun (x6,x7)=>
  c1_ (x7,w64 (i_2-1),List.set a_5 (Int.toNat i_2) x6)
 else
 some (a_5,r_1)
noncomputable def ZbR (N:Nat) (a_0_0:List Int) (by_1:Int):Option ((List Int)×Int):=
 if (by_1==0)=true then
  some (List.replicate 4 0,0)
 else
 loopN (ZbR.p1 N by_1) N (0,3,a_0_0)
noncomputable def ZbR.p1.S (by_1 r_1 i_2:Int) (a_5:List Int) (st:LL):S:=mkS 28 [(1,.one (.l (L.int .u64 by_1))),(2,sA 2),(4,sA 4),(6,.one (.l (L.int .u64 r_1))),(7,sI i_2)] [(2,.cells [L.arr .u64 4 a_5]),(4,.cells [L.arr .u64 4 (List.replicate 4 0)])] st
theorem ZbR.p1_ok {by_1 r_1 i_2 a_5 st r c1_ J1} (h:ZbR.p1 N by_1 c1_ (r_1,i_2,a_5)=some r) (hE:En Tryz.f214 g0 w0 (ZbR.rs r) st R) (hc1 : ∀r_1 i_2 a_5,c1_ (r_1,i_2,a_5)=some r→At g0 w0 (ZbR.p1.S by_1 r_1 i_2 a_5 st) J1):At g0 w0 (ZbR.p1.S by_1 r_1 i_2 a_5 st) (XK Tryz.prog R (.c (csub ZbR.B [1,1,1,0,1,0,0]) :: .h J1 :: [.b 0,.c (csub ZbR.B [1,1,1,1])])):=by
 unfold ZbR.p1 at h
 refine iteB h (fun c6 h1=>?_) (fun c6 h2=>?_)
 ·obtain ⟨c7,c8,h3⟩:=ck2 h1
  obtain ⟨⟨x6,x7⟩,c9,h4⟩:=Zad h3
  exact an fol [.r [],.c true,.r [(6,q1 [.one (L.int .u64 x6),.one (L.int .u64 x7)])],.r []] [1,2,4,6,7] [2,4] (aM c6 c7 c8 (Zaf.snd c9) c7 c8) (hc1 x7 (w64 (i_2-1)) (List.set a_5 (Int.toNat i_2) x6) h4)
 ·obtain rfl:=Zac h2
  exact af fol hE [.r [],.c false,.r []] [] 0 [] c6
theorem ZbR.snd {a_0_0:List Int} {by_1:Int} {r:(List Int)×Int} (h:ZbR N a_0_0 by_1=some r):SndQ Tryz.prog 214 [.agg [L.arr .u64 4 a_0_0],.one (L.int .u64 by_1)] (ZbR.rs r):=fun st=>
 sO ZbR.B Tryz.func214 fun g0 w0 R hE=>by
  unfold ZbR at h
  refine iteB h (fun c1 h5=>?_) (fun c1 h6=>?_)
  ·obtain rfl:=Zac h5
   exact af fol hE [.r [],.r [],.c true,.r []] [] 0 [] c1
  ·exact aq fol [.r [],.r [],.c false,.r [],.r []] [1,2,4,6,7] [2,4] c1 (At.loop N (At.loopN (fun y:Int×Int×(List Int)=>ZbR.p1.S by_1 y.1 y.2.1 y.2.2 st) (fun c J hc y h=>ZbR.p1_ok (r_1:=y.1) (i_2:=y.2.1) (a_5:=y.2.2) h hE (fun r_1 i_2 a_5=>hc (r_1,i_2,a_5))) N (0,3,a_0_0) h6))
noncomputable def Zch.B:Code:=Tryz.f226.body.getD .skip
noncomputable def Zch.rs (r:Int×Int):List CV:=[.one (L.int .u64 r.1),.one (L.int .u64 r.2)]
noncomputable def Zch (N:Nat) (x_0 y_1:Int):Option (Int×Int):=
 some (v64 ((v64 ((v64 ((shrOf .u64 x_0 32)*(shrOf .u64 y_1 32)))+(shrOf .u64 (v64 ((v64 ((shrOf .u64 x_0 32)*(bitsOf .and .u64 y_1 4294967295)))+(shrOf .u64 (v64 ((bitsOf .and .u64 x_0 4294967295)*(bitsOf .and .u64 y_1 4294967295))) 32))) 32)))+(shrOf .u64 (v64 ((bitsOf .and .u64 (v64 ((v64 ((shrOf .u64 x_0 32)*(bitsOf .and .u64 y_1 4294967295)))+(shrOf .u64 (v64 ((bitsOf .and .u64 x_0 4294967295)*(bitsOf .and .u64 y_1 4294967295))) 32))) 4294967295)+(v64 ((bitsOf .and .u64 x_0 4294967295)*(shrOf .u64 y_1 32))))) 32)),v64 (x_0*y_1))
theorem Zch.snd {x_0 y_1:Int} {r:Int×Int} (h:Zch N x_0 y_1=some r):SndQ Tryz.prog 226 [.one (L.int .u64 x_0),.one (L.int .u64 y_1)] (Zch.rs r):=fun st=>
 sO Zch.B Tryz.func226 fun g0 w0 R hE=>by
  unfold Zch at h
  obtain rfl:=Zac h
  exact af fol hE [.r [],.r [],.r [],.r [],.r [],.r [],.r [],.r [],.r [],.r [],.r [],.r []] [] 0 [] (aL (leI 0 32) (leI 0 32) (leI 0 32) (leI 0 32) (leI 0 32))
noncomputable def ZbE.B:Code:=Tryz.f215.body.getD .skip
noncomputable def ZbE.rs (r:(List Int)×Bool):List CV:=[.agg [L.arr .u64 4 r.1],oB r.2]
noncomputable def ZbE.p1 (N:Nat) (by_1:Int) (c1_:(Int×Int×(List Int))→Option ((List Int)×Bool)):(Int×Int×(List Int))→Option ((List Int)×Bool):=fun (c_1,v2,a_7)=>
 if (decide (v2<4))=true then
  chk (0≤v2)<|
  optE (Zch N (List.getD a_7 (Int.toNat v2) 0) by_1) fun (x8,x9)=>
  optE (Zda N x9 c_1 0) fun (x10,x11)=>
  c1_ (v64 (x8+x11),w64 (v2+1),List.set a_7 (Int.toNat v2) x10)
 else
 some (a_7,c_1 != 0)
noncomputable def ZbE (N:Nat) (a_0_0:List Int) (by_1:Int):Option ((List Int)×Bool):=
 loopN (ZbE.p1 N by_1) N (0,0,a_0_0)
noncomputable def ZbE.p1.S (by_1 c_1 v2:Int) (a_7:List Int) (st:LL):S:=mkS 37 [(1,.one (.l (L.int .u64 by_1))),(2,sA 2),(4,sA 4),(6,.one (.l (L.int .u64 c_1))),(11,sI v2)] [(2,.cells [L.arr .u64 4 a_7]),(4,.cells [L.arr .u64 4 (List.replicate 4 0)])] st
theorem ZbE.p1_ok {by_1 c_1 v2 a_7 st r c1_ J1} (h:ZbE.p1 N by_1 c1_ (c_1,v2,a_7)=some r) (hE:En Tryz.f215 g0 w0 (ZbE.rs r) st R) (hc1 : ∀c_1 v2 a_7,c1_ (c_1,v2,a_7)=some r→At g0 w0 (ZbE.p1.S by_1 c_1 v2 a_7 st) J1):At g0 w0 (ZbE.p1.S by_1 c_1 v2 a_7 st) (XK Tryz.prog R (.c (csub ZbE.B [1,1,0,1,0,0]) :: .h J1 :: [.b 0,.c (csub ZbE.B [1,1,1])])):=by
 unfold ZbE.p1 at h
 refine iteB h (fun c5 h1=>?_) (fun c5 h2=>?_)
 ·obtain ⟨c6,h3⟩:=ZaN h1
  obtain ⟨⟨x8,x9⟩,c7,h4⟩:=Zad h3
  obtain ⟨⟨x10,x11⟩,c8,h5⟩:=Zad h4
  exact an fol [.r [],.c true,.r [],.r [(4,q1 [.one (L.int .u64 x8),.one (L.int .u64 x9)])],.r [],.r [(3,{rs:=[.one (L.int .u64 x10),.one (L.int .u64 x11)],m:=4})],.r [],.r []] [1,2,4,6,11] [2,4] (aN c5 c6 (oD c5) (Zch.snd c7) (Zda.snd c8) c6 (oD c5)) (hc1 (v64 (x8+x11)) (w64 (v2+1)) (List.set a_7 (Int.toNat v2) x10) h5)
 ·obtain rfl:=Zac h2
  exact af fol hE [.r [],.c false,.r []] [] 0 [] c5
theorem ZbE.snd {a_0_0:List Int} {by_1:Int} {r:(List Int)×Bool} (h:ZbE N a_0_0 by_1=some r):SndQ Tryz.prog 215 [.agg [L.arr .u64 4 a_0_0],.one (L.int .u64 by_1)] (ZbE.rs r):=fun st=>
 sO ZbE.B Tryz.func215 fun g0 w0 R hE=>by
  unfold ZbE at h
  exact aq fol [.r [],.r [],.r []] [1,2,4,6,11] [2,4] trivial (At.loop N (At.loopN (fun y:Int×Int×(List Int)=>ZbE.p1.S by_1 y.1 y.2.1 y.2.2 st) (fun c J hc y h=>ZbE.p1_ok (c_1:=y.1) (v2:=y.2.1) (a_7:=y.2.2) h hE (fun c_1 v2 a_7=>hc (c_1,v2,a_7))) N (0,0,a_0_0) h))
noncomputable def Zbz.B:Code:=Tryz.f174.body.getD .skip
noncomputable def Zbz.rs (r:(List Int)×Bool):List CV:=[.agg [L.arr .u64 4 r.1],oB r.2]
noncomputable def Zbz.p1 (N:Nat) (b_1_0:List Int) (c1_:(Int×Int×(List Int))→Option ((List Int)×Bool)):(Int×Int×(List Int))→Option ((List Int)×Bool):=fun (c_1,v2,a_5)=>
 if (decide (v2<4))=true then
  chk (0≤v2)<|
  optE (Zda N (List.getD a_5 (Int.toNat v2) 0) (List.getD b_1_0 (Int.toNat v2) 0) c_1) fun (x6,x7)=>
  c1_ (x7,w64 (v2+1),List.set a_5 (Int.toNat v2) x6)
 else
 some (a_5,c_1 != 0)
noncomputable def Zbz (N:Nat) (a_0_0 b_1_0:List Int):Option ((List Int)×Bool):=
 loopN (Zbz.p1 N b_1_0) N (0,0,a_0_0)
noncomputable def Zbz.p1.S (c_1 v2:Int) (a_5 b_1_0:List Int) (st:LL):S:=mkS 28 [(2,sA 2),(3,sA 3),(4,sA 4),(6,.one (.l (L.int .u64 c_1))),(8,sI v2)] [(2,.cells [L.arr .u64 4 a_5]),(3,.cells [L.arr .u64 4 b_1_0]),(4,.cells [L.arr .u64 4 (List.replicate 4 0)])] st
theorem Zbz.p1_ok {c_1 v2 a_5 b_1_0 st r c1_ J1} (h:Zbz.p1 N b_1_0 c1_ (c_1,v2,a_5)=some r) (hE:En Tryz.f174 g0 w0 (Zbz.rs r) st R) (hc1 : ∀c_1 v2 a_5,c1_ (c_1,v2,a_5)=some r→At g0 w0 (Zbz.p1.S c_1 v2 a_5 b_1_0 st) J1):At g0 w0 (Zbz.p1.S c_1 v2 a_5 b_1_0 st) (XK Tryz.prog R (.c (csub Zbz.B [1,1,0,1,0,0]) :: .h J1 :: [.b 0,.c (csub Zbz.B [1,1,1])])):=by
 unfold Zbz.p1 at h
 refine iteB h (fun c4 h1=>?_) (fun c4 h2=>?_)
 ·obtain ⟨c5,h3⟩:=ZaN h1
  obtain ⟨⟨x6,x7⟩,c6,h4⟩:=Zad h3
  exact and_ fol [.r [],.c true,.r [],.d {ds:=[(8,{rs:=[.one (L.int .u64 x6),.one (L.int .u64 x7)],m:=4})],hv:=8192,Hs:=[8192]},.r []] [2,3,4,6,8] [2,3,4] (aO c4 c5 (oD c4) c5 (oD c4) (Zda.snd c6) c5 (oD c4)) (hc1 x7 (w64 (v2+1)) (List.set a_5 (Int.toNat v2) x6) h4)
 ·obtain rfl:=Zac h2
  exact af fol hE [.r [],.c false,.r []] [] 0 [] c4
theorem Zbz.snd {a_0_0 b_1_0:List Int} {r:(List Int)×Bool} (h:Zbz N a_0_0 b_1_0=some r):SndQ Tryz.prog 174 [.agg [L.arr .u64 4 a_0_0],.agg [L.arr .u64 4 b_1_0]] (Zbz.rs r):=fun st=>
 sO Zbz.B Tryz.func174 fun g0 w0 R hE=>by
  unfold Zbz at h
  exact aq fol [.r [],.r [],.r []] [2,3,4,6,8] [2,3,4] trivial (At.loop N (At.loopN (fun y:Int×Int×(List Int)=>Zbz.p1.S y.1 y.2.1 y.2.2 b_1_0 st) (fun c J hc y h=>Zbz.p1_ok (c_1:=y.1) (v2:=y.2.1) (a_5:=y.2.2) h hE (fun c_1 v2 a_5=>hc (c_1,v2,a_5))) N (0,0,a_0_0) h))
noncomputable def ZbY.B:Code:=Tryz.f206.body.getD .skip
noncomputable def ZbY.rs (r:Int):List CV:=[oI r]
noncomputable def ZbY.p1 (N:Nat) (a_0_0:List Int) (c1_:Int→Option Int):Int→Option Int:=fun i_1=>
 if (decide (i_1≥0))=true then
  chk (0≤i_1)<|
  chk (i_1<4)<|
  if ((List.getD a_0_0 (Int.toNat i_1) 0) != 0)=true then
   optE (Zau N (List.getD a_0_0 (Int.toNat i_1) 0)) fun x2=>
   some (w64 ((w64 (64*i_1))+x2))
  else
  c1_ (w64 (i_1-1))
 else
 some 0
noncomputable def ZbY (N:Nat) (a_0_0:List Int):Option Int:=
 loopN (ZbY.p1 N a_0_0) N 3
noncomputable def ZbY.p1.S (i_1:Int) (a_0_0:List Int) (st:LL):S:=mkS 19 [(1,sA 1),(3,sI i_1)] [(1,.cells [L.arr .u64 4 a_0_0])] st
theorem ZbY.p1_ok {i_1 a_0_0 st r c1_ J1} (h:ZbY.p1 N a_0_0 c1_ i_1=some r) (hE:En Tryz.f206 g0 w0 (ZbY.rs r) st R) (hc1 : ∀i_1,c1_ i_1=some r→At g0 w0 (ZbY.p1.S i_1 a_0_0 st) J1):At g0 w0 (ZbY.p1.S i_1 a_0_0 st) (XK Tryz.prog R (.c (csub ZbY.B [1,0,1,0,0]) :: .h J1 :: [.b 0,.c (csub ZbY.B [1,1])])):=by
 unfold ZbY.p1 at h
 refine iteB h (fun c1 h1=>?_) (fun c1 h2=>?_)
 ·obtain ⟨c2,c3,h3⟩:=ck2 h1
  refine iteB h3 (fun c4 h4=>?_) (fun c4 h5=>?_)
  ·obtain ⟨x2,c5,h6⟩:=Zad h4
   obtain rfl:=Zac h6
   exact af fol hE [.r [],.c true,.r [],.c true,.r [(5,q1 [oI x2])]] [] 0 [] (aN c1 c2 c3 c4 c2 c3 (Zau.snd c5))
  ·exact an fol [.r [],.c true,.r [],.c false,.r []] [1,3] [1] (aK c1 c2 c3 c4) (hc1 (w64 (i_1-1)) h5)
 ·obtain rfl:=Zac h2
  exact af fol hE [.r [],.c false,.r []] [] 0 [] c1
theorem ZbY.snd {a_0_0:List Int} {r:Int} (h:ZbY N a_0_0=some r):SndQ Tryz.prog 206 [.agg [L.arr .u64 4 a_0_0]] (ZbY.rs r):=fun st=>
 sO ZbY.B Tryz.func206 fun g0 w0 R hE=>by
  unfold ZbY at h
  exact aq fol [.r [],.r []] [1,3] [1] trivial (At.loop N (At.loopN (fun y:Int=>ZbY.p1.S y a_0_0 st) (fun c J hc y h=>ZbY.p1_ok h hE (fun i_1=>hc i_1)) N 3 h))
noncomputable def ZaI.B:Code:=Tryz.f216.body.getD .skip
noncomputable def ZaI.rs (r:Int):List CV:=[oI r]
noncomputable def ZaI.p2 (N:Nat) (size_5 word_6:Int):Option Int:=
 some (bitsOf .or .i64 (shlOf .i64 size_5 24) word_6)
noncomputable def ZaI.p1 (N:Nat) (x1 word_4:Int):Option Int:=
 if ((bitsOf .and .i64 word_4 8388608) != 0)=true then
  ZaI.p2 N (w64 ((w64 (Int.tdiv (w64 (x1+7)) 8))+1)) (shrOf .i64 word_4 8)
 else
 ZaI.p2 N (w64 (Int.tdiv (w64 (x1+7)) 8)) word_4
noncomputable def ZaI (N:Nat) (n_0_0:List Int):Option Int:=
 optE (ZbY N n_0_0) fun x1=>
 if (decide ((w64 (Int.tdiv (w64 (x1+7)) 8))≤3))=true then
  optE (Zbu N n_0_0 (w64 (8*(w64 (3-(w64 (Int.tdiv (w64 (x1+7)) 8))))))) fun x2=>
  ZaI.p1 N x1 (w64 (List.getD x2 0 0))
 else
 optE (ZaV N n_0_0 (w64 (8*(w64 ((w64 (Int.tdiv (w64 (x1+7)) 8))-3))))) fun x3=>
 ZaI.p1 N x1 (w64 (List.getD x3 0 0))
noncomputable def ZaI.p2.S (size_5 word_6:Int) (st:LL):S:=mkS 36 [(3,sI size_5),(4,sI word_6)] [] st
noncomputable def ZaI.p1.S (x1 word_4:Int) (st:LL):S:=mkS 36 [(3,sI (w64 (Int.tdiv (w64 (x1+7)) 8))),(4,sI word_4)] [] st
theorem ZaI.p2_ok {size_5 word_6 st r} (h:ZaI.p2 N size_5 word_6=some r) (hE:En Tryz.f216 g0 w0 (ZaI.rs r) st R):At g0 w0 (ZaI.p2.S size_5 word_6 st) (XK Tryz.prog R [.c (csub ZaI.B [1,1,1,1,1])]):=by
 unfold ZaI.p2 at h
 obtain rfl:=Zac h
 exact af fol hE [.r []] [] 0 [] (leI 0 24)
theorem ZaI.p1_ok {x1 word_4 st r} (h:ZaI.p1 N x1 word_4=some r) (hE:En Tryz.f216 g0 w0 (ZaI.rs r) st R):At g0 w0 (ZaI.p1.S x1 word_4 st) (XK Tryz.prog R [.c (csub ZaI.B [1,1,1,1])]):=by
 unfold ZaI.p1 at h
 refine iteB h (fun c5 h1=>?_) (fun c5 h2=>?_)
 ·exact aq fol [.r [],.c true,.r [],.r [],.s 1] [3,4] [] (aI c5 (leI 0 8)) (ZaI.p2_ok h1 hE)
 ·exact aq fol [.r [],.c false,.s 1] [3,4] [] c5 (ZaI.p2_ok h2 hE)
theorem ZaI.snd {n_0_0:List Int} {r:Int} (h:ZaI N n_0_0=some r):SndQ Tryz.prog 216 [.agg [L.arr .u64 4 n_0_0]] (ZaI.rs r):=fun st=>
 sO ZaI.B Tryz.func216 fun g0 w0 R hE=>by
  unfold ZaI at h
  obtain ⟨x1,c1,h3⟩:=Zad h
  let o1:List PS:=[.r [],.r [(1,q1 [oI x1])],.r [],.r []]
  refine iteB h3 (fun c2 h4=>?_) (fun c2 h5=>?_)
  ·obtain ⟨x2,c3,h6⟩:=Zad h4
   exact aq fol (o1 ++ [.c true,.r [(4,q1 [.agg [L.arr .u64 4 x2]])],.s 1]) [3,4] [] (aM (ZbY.snd c1) (neI 8) c2 (Zbu.snd c3) (leI 0 0) (ltI 0 4)) (ZaI.p1_ok h6 hE)
  ·obtain ⟨x3,c4,h7⟩:=Zad h5
   exact aq fol (o1 ++ [.c false,.r [(4,q1 [.agg [L.arr .u64 4 x3]])],.s 1]) [3,4] [] (aM (ZbY.snd c1) (neI 8) c2 (ZaV.snd c4) (leI 0 0) (ltI 0 4)) (ZaI.p1_ok h7 hE)
noncomputable def Zbq.B:Code:=Tryz.f189.body.getD .skip
noncomputable def Zbq.rs (r:Int):List CV:=[oI r]
noncomputable def Zbq.p1 (N:Nat) (n_17:List Int):Option Int:=
 optE (ZaI N n_17) fun x18=>
 some x18
noncomputable def Zbq (N:Nat) (p_0:Zag) (bits_1 from_2 to_3:Int):Option Int:=
 optE (ZbT N bits_1 p_0.Limit) fun (x1,x2)=>
 optE (Zdt N p_0) fun x3=>
 if (!x3)=true then
  some p_0.Limit
 else
 if (!x2)=true then
  some p_0.Limit
 else
 optE (ZdN N p_0 from_2 to_3) fun x4=>
 optE (ZbR N x1 (v64 (w64 (p_0.Interval*p_0.Spacing)))) fun (x5,x6)=>
 optE (ZbE N x5 (v64 (x4))) fun (x7,x8)=>
 chk ((v64 (w64 (p_0.Interval*p_0.Spacing)))≠0)<|
 optE (ZcH N (v64 (Int.tdiv (v64 (x6*(v64 (x4)))) (v64 (w64 (p_0.Interval*p_0.Spacing)))))) fun x9=>
 optE (Zbz N x7 x9) fun (x10,x11)=>
 optE (ZbT N p_0.Limit p_0.Limit) fun (x12,x13)=>
 if x8=true then
  some p_0.Limit
 else
 if x11=true then
  some p_0.Limit
 else
 optE (Zcl N x12 x10) fun x14=>
 if x14=true then
  some p_0.Limit
 else
 optE (Zcp N x10) fun x15=>
 if x15=true then
  optE (ZcH N 1) fun x16=>
  Zbq.p1 N x16
 else
 Zbq.p1 N x10
noncomputable def Zbq.p1.S (n_17:List Int) (st:LL):S:=mkS 94 [(15,sA 15)] [(15,.cells [L.arr .u64 4 n_17])] st
theorem Zbq.p1_ok {n_17 st r} (h:Zbq.p1 N n_17=some r) (hE:En Tryz.f189 g0 w0 (Zbq.rs r) st R):At g0 w0 (Zbq.p1.S n_17 st) (XK Tryz.prog R [.c (csub Zbq.B [1,1,1,1,1,1,1,1,1,1,1])]):=by
 unfold Zbq.p1 at h
 obtain ⟨x18,c19,h1⟩:=Zad h
 obtain rfl:=Zac h1
 exact af fol hE [.r [(1,q1 [oI x18])]] [] 0 [] (ZaI.snd c19)
theorem Zbq.snd {p_0:Zag} {bits_1 from_2 to_3:Int} {r:Int} (h:Zbq N p_0 bits_1 from_2 to_3=some r):SndQ Tryz.prog 189 [.agg p_0.ls,oI bits_1,oI from_2,oI to_3] (Zbq.rs r):=fun st=>
 sO Zbq.B Tryz.func189 fun g0 w0 R hE=>by
  unfold Zbq at h
  obtain ⟨⟨x1,x2⟩,c1,h2⟩:=Zad h
  obtain ⟨x3,c2,h3⟩:=Zad h2
  let o1:List PS:=[.r [],.r [(3,q1 [.agg [L.arr .u64 4 x1],oB x2])]]
  have t1 {Q:Prop} (q:Q):=aJ (ZbT.snd c1) (Zdt.snd c2) q
  refine iteB h3 (fun c3 h4=>?_) (fun c3 h5=>?_)
  ·obtain rfl:=Zac h4
   exact af fol hE (o1 ++ [.r [(1,q1 [oB x3]),(4,wF),(5,wF)],.c true,.r []]) [] 0 [] (t1 (aK (not_false (Zbd c3)) (not_false (Zbd c3)) (not_false (Zbd c3)) eT))
  ·let o2:List PS:=o1 ++ [.r [(1,q1 [oB x3]),(6,yF)]]
   have t2 {Q:Prop} (q:Q):=t1 (aK (not_true (ZaZ c3)) (not_true (ZaZ c3)) (not_true (ZaZ c3)) q)
   refine iteB h5 (fun c4 h6=>?_) (fun c4 h7=>?_)
   ·obtain rfl:=Zac h6
    exact af fol hE (o2 ++ [.c true,.r []]) [] 0 [] (t2 c4)
   ·obtain ⟨x4,c5,h8⟩:=Zad h7
    obtain ⟨⟨x5,x6⟩,c6,h9⟩:=Zad h8
    obtain ⟨⟨x7,x8⟩,c7,h10⟩:=Zad h9
    obtain ⟨c8,h11⟩:=ZaN h10
    obtain ⟨x9,c9,h12⟩:=Zad h11
    obtain ⟨⟨x10,x11⟩,c10,h13⟩:=Zad h12
    obtain ⟨⟨x12,x13⟩,c11,h14⟩:=Zad h13
    let o3:List PS:=o2 ++ [.c false,.r [],.r [(3,q1 [oI x4])],.r [(2,q1 [.agg [L.arr .u64 4 x5],.one (L.int .u64 x6)])],.r [(2,q1 [.agg [L.arr .u64 4 x7],oB x8])],.d {ds:=[(6,q1 [.agg [L.arr .u64 4 x9]]),(7,q1 [.agg [L.arr .u64 4 x10],oB x11])],hv:=2048,Hs:=[2048]},.r [(4,q1 [.agg [L.arr .u64 4 x12],oB x13])]]
    have t3 {Q:Prop} (q:Q):=t2 (aO c4 (ZdN.snd c5) (ZbR.snd c6) (ZbE.snd c7) c8 (ZcH.snd c9) (Zbz.snd c10) (aI (ZbT.snd c11) q))
    refine iteB h14 (fun c12 h15=>?_) (fun c12 h16=>?_)
    ·obtain rfl:=Zac h15
     exact afd fol hE (o3 ++ [.r [(2,wF),(5,wF),(6,wF),(7,wF)],.c true,.r []]) [] 0 [] (t3 (aN c12 c12 eT eT eT eT eT))
    ·refine iteB h16 (fun c13 h17=>?_) (fun c13 h18=>?_)
     ·obtain rfl:=Zac h17
      exact afd fol hE (o3 ++ [.r [(3,yF),(5,wF),(6,wF),(7,wF)],.c true,.r []]) [] 0 [] (t3 (aN c12 c12 c13 c13 c13 c13 eT))
     ·obtain ⟨x14,c14,h19⟩:=Zad h18
      let o4:List PS:=o3 ++ [.r [(3,yF),(7,q1 [oB x14]),(8,yF)]]
      have t4 {Q:Prop} (q:Q):=t3 (aO c12 c12 c13 c13 c13 (Zcl.snd c14) c13 q)
      refine iteB h19 (fun c15 h20=>?_) (fun c15 h21=>?_)
      ·obtain rfl:=Zac h20
       exact afd fol hE (o4 ++ [.c true,.r []]) [] 0 [] (t4 c15)
      ·obtain ⟨x15,c16,h22⟩:=Zad h21
       let o5:List PS:=o4 ++ [.c false,.r [(1,q1 [oB x15])]]
       refine iteB h22 (fun c17 h23=>?_) (fun c17 h24=>?_)
       ·obtain ⟨x16,c18,h25⟩:=Zad h23
        exact aqd fol (o5 ++ [.c true,.r [(0,q1 [.agg [L.arr .u64 4 x16]])],.s 1]) [15] [15] (t4 (aK c15 (Zcp.snd c16) c17 (ZcH.snd c18))) (Zbq.p1_ok h25 hE)
       ·exact aqd fol (o5 ++ [.c false,.s 1]) [15] [15] (t4 (aJ c15 (Zcp.snd c16) c17)) (Zbq.p1_ok h24 hE)
noncomputable def ZdO.B:Code:=Tryz.f149.body.getD .skip
noncomputable def ZdO.rs (r:Int):List CV:=[oI r]
noncomputable def ZdO (N:Nat) (p_0:Zag) (at_1:Zbb) (time_2:Int):Option Int:=
 if (decide (at_1.Height≤0))=true then
  some p_0.Limit
 else
 optE (ZcD N p_0 at_1.Height) fun x1=>
 if x1=true then
  optE (Zbq N p_0 at_1.Bits at_1.First at_1.Time) fun x2=>
  some x2
 else
 if (!p_0.Easy)=true then
  some at_1.Bits
 else
 if (decide ((w64 (time_2-at_1.Time))>(w64 (2*p_0.Spacing))))=true then
  some p_0.Limit
 else
 some at_1.Hard
theorem ZdO.snd {p_0:Zag} {at_1:Zbb} {time_2:Int} {r:Int} (h:ZdO N p_0 at_1 time_2=some r):SndQ Tryz.prog 149 [.agg p_0.ls,.agg at_1.ls,oI time_2] (ZdO.rs r):=fun st=>
 sO ZdO.B Tryz.func149 fun g0 w0 R hE=>by
  unfold ZdO at h
  refine iteB h (fun c1 h1=>?_) (fun c1 h2=>?_)
  ·obtain rfl:=Zac h1
   exact af fol hE [.r [],.r [],.c true,.r []] [] 0 [] c1
  ·obtain ⟨x1,c2,h3⟩:=Zad h2
   let o1:List PS:=[.r [],.r [],.c false,.r [(3,q1 [oB x1])]]
   have t1 {Q:Prop} (q:Q):=aJ c1 (ZcD.snd c2) q
   refine iteB h3 (fun c3 h4=>?_) (fun c3 h5=>?_)
   ·obtain ⟨x2,c4,h6⟩:=Zad h4
    obtain rfl:=Zac h6
    exact af fol hE (o1 ++ [.c true,.r [(7,q1 [oI x2])]]) [] 0 [] (t1 (aI c3 (Zbq.snd c4)))
   ·refine iteB h5 (fun c5 h7=>?_) (fun c5 h8=>?_)
    ·obtain rfl:=Zac h7
     exact af fol hE (o1 ++ [.c false,.r [],.c true,.r []]) [] 0 [] (t1 (aI c3 c5))
    ·refine iteB h8 (fun c6 h9=>?_) (fun c6 h10=>?_)
     ·obtain rfl:=Zac h9
      exact af fol hE (o1 ++ [.c false,.r [],.c false,.r [],.c true,.r []]) [] 0 [] (t1 (aJ c3 c5 c6))
     ·obtain rfl:=Zac h10
      exact af fol hE (o1 ++ [.c false,.r [],.c false,.r [],.c false,.r []]) [] 0 [] (t1 (aJ c3 c5 c6))
noncomputable def Zbk.B:Code:=Tryz.f217.body.getD .skip
noncomputable def Zbk.rs (r:(List Int)):List CV:=[.agg [L.arr .u64 4 r]]
noncomputable def Zbk.p1 (N:Nat) (h_0_0:List Int) (c1_:(Int×(List Int))→Option (List Int)):(Int×(List Int))→Option (List Int):=fun (v1,out_2)=>
 if (decide (v1<32))=true then
  chk (0≤v1)<|
  chk (0≤(w64 (Int.tdiv v1 8)))<|
  chk ((w64 (Int.tdiv v1 8))<4)<|
  chk (0≤(w64 (8*(Int.tmod v1 8))))<|
  c1_ (w64 (v1+1),List.set out_2 (Int.toNat (w64 (Int.tdiv v1 8))) (bitsOf .or .u64 (List.getD out_2 (Int.toNat (w64 (Int.tdiv v1 8))) 0) (shlOf .u64 (v64 (List.getD h_0_0 (Int.toNat v1) 0)) (w64 (8*(Int.tmod v1 8))))))
 else
 some out_2
noncomputable def Zbk (N:Nat) (h_0_0:List Int):Option (List Int):=
 loopN (Zbk.p1 N h_0_0) N (0,List.replicate 4 0)
noncomputable def Zbk.p1.S (h_0_0:List Int) (v1:Int) (out_2:List Int) (st:LL):S:=mkS 25 [(2,sA 2),(3,sA 3),(6,.agg [.l (L.arr .u8 32 h_0_0)]),(7,sI v1)] [(2,.cells [L.arr .u64 4 (List.replicate 4 0)]),(3,.cells [L.arr .u64 4 out_2])] st
theorem Zbk.p1_ok {h_0_0 v1 out_2 st r c1_ J1} (h:Zbk.p1 N h_0_0 c1_ (v1,out_2)=some r) (hE:En Tryz.f217 g0 w0 (Zbk.rs r) st R) (hc1 : ∀v1 out_2,c1_ (v1,out_2)=some r→At g0 w0 (Zbk.p1.S h_0_0 v1 out_2 st) J1):At g0 w0 (Zbk.p1.S h_0_0 v1 out_2 st) (XK Tryz.prog R (.c (csub Zbk.B [1,1,0,1,0,0]) :: .h J1 :: [.b 0,.c (csub Zbk.B [1,1,1])])):=by
 unfold Zbk.p1 at h
 refine iteB h (fun c6 h1=>?_) (fun c6 h2=>?_)
 ·obtain ⟨c7,c8,c9,c10,h3⟩:=ck4 h1
  exact and_ fol [.r [],.c true,.r [],.d {ds:=[],hv:=4096,Hs:=[4096]},.r []] [2,3,6,7] [2,3] (aO c6 c7 (oD c6) (neI 8) c8 c9 (neI 8) (aJ c10 c8 c9)) (hc1 (w64 (v1+1)) (List.set out_2 (Int.toNat (w64 (Int.tdiv v1 8))) (bitsOf .or .u64 (List.getD out_2 (Int.toNat (w64 (Int.tdiv v1 8))) 0) (shlOf .u64 (v64 (List.getD h_0_0 (Int.toNat v1) 0)) (w64 (8*(Int.tmod v1 8)))))) h3)
 ·obtain rfl:=Zac h2
  exact af fol hE [.r [],.c false,.r []] [] 0 [] c6
theorem Zbk.snd {h_0_0:List Int} {r:(List Int)} (h:Zbk N h_0_0=some r):SndQ Tryz.prog 217 [.agg [L.arr .u8 32 h_0_0]] (Zbk.rs r):=fun st=>
 sO Zbk.B Tryz.func217 fun g0 w0 R hE=>by
  unfold Zbk at h
  exact aq fol [.r [],.r [],.r []] [2,3,6,7] [2,3] trivial (At.loop N (At.loopN (fun y:Int×(List Int)=>Zbk.p1.S h_0_0 y.1 y.2 st) (fun c J hc y h=>Zbk.p1_ok (v1:=y.1) (out_2:=y.2) h hE (fun v1 out_2=>hc (v1,out_2))) N (0,List.replicate 4 0) h))
noncomputable def ZcI.B:Code:=Tryz.f190.body.getD .skip
noncomputable def ZcI.rs (r:Bool):List CV:=[oB r]
noncomputable def ZcI (N:Nat) (h_0_0 target_1_0:List Int):Option Bool:=
 optE (Zbk N h_0_0) fun x1=>
 optE (Zcl N target_1_0 x1) fun x2=>
 some (!x2)
theorem ZcI.snd {h_0_0 target_1_0:List Int} {r:Bool} (h:ZcI N h_0_0 target_1_0=some r):SndQ Tryz.prog 190 [.agg [L.arr .u8 32 h_0_0],.agg [L.arr .u64 4 target_1_0]] (ZcI.rs r):=fun st=>
 sO ZcI.B Tryz.func190 fun g0 w0 R hE=>by
  unfold ZcI at h
  obtain ⟨x1,c1,h1⟩:=Zad h
  obtain ⟨x2,c2,h2⟩:=Zad h1
  obtain rfl:=Zac h2
  exact afd fol hE [.r [],.d {ds:=[(2,q1 [.agg [L.arr .u64 4 x1]]),(3,q1 [oB x2])],hv:=0,Hs:=[]}] [] 0 [] (aI (Zbk.snd c1) (Zcl.snd c2))
noncomputable def Zdd.B:Code:=Tryz.f150.body.getD .skip
noncomputable def Zdd.rs (r:Int):List CV:=[oI r]
noncomputable def Zdd (N:Nat) (p_0:Zag) (h_1:Zaa):Option Int:=
 optE (Zce N h_1) fun x1=>
 if (!x1)=true then
  some 1
 else
 optE (ZbT N h_1.Bits p_0.Limit) fun (x2,x3)=>
 if (!x3)=true then
  some 4
 else
 optE (ZcS N h_1) fun x4=>
 optE (ZcI N x4 x2) fun x5=>
 if (!x5)=true then
  some 4
 else
 some 0
theorem Zdd.snd {p_0:Zag} {h_1:Zaa} {r:Int} (h:Zdd N p_0 h_1=some r):SndQ Tryz.prog 150 [.agg p_0.ls,.agg h_1.ls] (Zdd.rs r):=fun st=>
 sO Zdd.B Tryz.func150 fun g0 w0 R hE=>by
  unfold Zdd at h
  obtain ⟨x1,c1,h1⟩:=Zad h
  let o1:List PS:=[.r [],.r [(1,q1 [oB x1])]]
  have t1 {Q:Prop} (q:Q):=aI (Zce.snd c1) q
  refine iteB h1 (fun c2 h2=>?_) (fun c2 h3=>?_)
  ·obtain rfl:=Zac h2
   exact af fol hE (o1 ++ [.c true,.r []]) [] 0 [] (t1 c2)
  ·obtain ⟨⟨x2,x3⟩,c3,h4⟩:=Zad h3
   let o2:List PS:=o1 ++ [.c false,.r [(4,q1 [.agg [L.arr .u64 4 x2],oB x3])]]
   have t2 {Q:Prop} (q:Q):=t1 (aJ c2 (ZbT.snd c3) q)
   refine iteB h4 (fun c4 h5=>?_) (fun c4 h6=>?_)
   ·obtain rfl:=Zac h5
    exact afd fol hE (o2 ++ [.d {ds:=[(3,wF),(4,wF),(5,wF),(6,wF),(7,wF)],hv:=0,Hs:=[]},.c true,.r []]) [] 0 [] (t2 (aN (not_false (Zbd c4)) (not_false (Zbd c4)) (not_false (Zbd c4)) (not_false (Zbd c4)) (not_false (Zbd c4)) (not_false (Zbd c4)) eT))
   ·obtain ⟨x4,c5,h7⟩:=Zad h6
    obtain ⟨x5,c6,h8⟩:=Zad h7
    let o3:List PS:=o2 ++ [.d {ds:=[(4,q1 [.agg [L.arr .u8 32 x4]]),(6,q1 [oB x5]),(8,yF)],hv:=0,Hs:=[]}]
    have t3 {Q:Prop} (q:Q):=t2 (aO (not_true (ZaZ c4)) (not_true (ZaZ c4)) (ZcS.snd c5) (not_true (ZaZ c4)) (not_true (ZaZ c4)) (ZcI.snd c6) (not_true (ZaZ c4)) (aI (not_true (ZaZ c4)) q))
    refine iteB h8 (fun c7 h9=>?_) (fun c7 h10=>?_)
    ·obtain rfl:=Zac h9
     exact afd fol hE (o3 ++ [.c true,.r []]) [] 0 [] (t3 c7)
    ·obtain rfl:=Zac h10
     exact afd fol hE (o3 ++ [.c false,.r []]) [] 0 [] (t3 c7)
noncomputable def ZcN.B:Code:=Tryz.f151.body.getD .skip
noncomputable def ZcN.rs (r:Bool):List CV:=[oB r]
noncomputable def ZcN (N:Nat) (time_0:Int) (times_1:LL):Option Bool:=
 if ((len times_1)==0)=true then
  some true
 else
 optE (Zdu N times_1) fun x1=>
 some (decide (time_0>x1))
theorem ZcN.snd {time_0:Int} {times_1:LL} {r:Bool} (h:ZcN N time_0 times_1=some r):SndQ Tryz.prog 151 [oI time_0,.one (L.sl 1 times_1)] (ZcN.rs r):=fun st=>
 sO ZcN.B Tryz.func151 fun g0 w0 R hE=>by
  unfold ZcN at h
  refine iteB h (fun c1 h1=>?_) (fun c1 h2=>?_)
  ·obtain rfl:=Zac h1
   exact af fol hE [.r [],.r [(4,wF),(5,wF),(6,wF),(7,wF)]] [] 0 [] (aL c1 c1 c1 c1 c1)
  ·obtain ⟨x1,c2,h3⟩:=Zad h2
   obtain rfl:=Zac h3
   exact af fol hE [.r [],.r [(6,q1 [oI x1]),(8,yF)]] [] 0 [] (aM c1 c1 c1 (Zdu.snd c2) c1 c1)
noncomputable def Zdg.B:Code:=Tryz.f152.body.getD .skip
noncomputable def Zdg.rs (r:Bool):List CV:=[oB r]
noncomputable def Zdg (N:Nat) (time_0 now_1 future_2:Int):Option Bool:=
 if (decide (future_2≥0))=true then
  if (decide (time_0≤now_1))=true then
   some true
  else
  some (decide ((w64 (time_0-now_1))≤future_2))
 else
 some false
theorem Zdg.snd {time_0 now_1 future_2:Int} {r:Bool} (h:Zdg N time_0 now_1 future_2=some r):SndQ Tryz.prog 152 [oI time_0,oI now_1,oI future_2] (Zdg.rs r):=fun st=>
 sO Zdg.B Tryz.func152 fun g0 w0 R hE=>by
  unfold Zdg at h
  refine iteB h (fun c1 h1=>?_) (fun c1 h2=>?_)
  ·refine iteB h1 (fun c2 h3=>?_) (fun c2 h4=>?_)
   ·obtain rfl:=Zac h3
    exact af fol hE [.r [],.r [(7,wF),(8,wF),(9,wF),(10,wF),(11,wF)]] [] 0 [] (aO c1 c1 c1 c1 c2 c2 c2 (aL c2 c2 c1 c2 c1))
   ·obtain rfl:=Zac h4
    exact af fol hE [.r [],.r [(12,yF)]] [] 0 [] (aO c1 c1 c1 c1 c2 c2 c2 (aL c2 c2 c1 c2 c1))
  ·obtain rfl:=Zac h2
   exact af fol hE [.r [],.r [(3,wF),(4,wF),(5,wF),(6,wF),(12,wF),(13,yF)]] [] 0 [] (aM c1 c1 c1 c1 c1 c1)
noncomputable def ZaP.B:Code:=Tryz.f153.body.getD .skip
noncomputable def ZaP.rs (r:Int):List CV:=[oI r]
noncomputable def ZaP.p2 (N:Nat) (c1_:(Int×Int)→Option Int) (height_0 least_4:Int) (gates_1:LL) (v2:Int):Option Int:=
 c1_ (least_4,w64 (v2+1))
noncomputable def ZaP.p1 (N:Nat) (height_0:Int) (gates_1:LL) (c1_:(Int×Int)→Option Int):(Int×Int)→Option Int:=fun (least_1,v2)=>
 if (decide (v2<(len gates_1)))=true then
  chk (0≤v2)<|
  getE (gates_1[Int.toNat v2]?) ZdA fun x3=>
  if (decide (height_0≥x3.Height))=true then
   ZaP.p2 N c1_ height_0 (if x3.Version>least_1 then x3.Version else least_1) gates_1 v2
  else
  ZaP.p2 N c1_ height_0 least_1 gates_1 v2
 else
 some least_1
noncomputable def ZaP (N:Nat) (height_0:Int) (gates_1:LL):Option Int:=
 loopN (ZaP.p1 N height_0 gates_1) N ((-2147483648),0)
noncomputable def ZaP.p2.S (height_0 least_4:Int) (gates_1:LL) (v2:Int) (st:LL):S:=mkS 24 [(0,sI height_0),(5,sI least_4),(8,sV 2 gates_1),(9,sI (len gates_1)),(10,sI v2)] [] st
noncomputable def ZaP.p1.S (height_0 least_1:Int) (gates_1:LL) (v2:Int) (st:LL):S:=mkS 24 [(0,sI height_0),(5,sI least_1),(8,sV 2 gates_1),(9,sI (len gates_1)),(10,sI v2)] [] st
theorem ZaP.p2_ok {height_0 least_4 gates_1 v2 st r c1_ J1} (h:ZaP.p2 N c1_ height_0 least_4 gates_1 v2=some r) (hE:En Tryz.f153 g0 w0 (ZaP.rs r) st R) (hc1 : ∀least_1 v2,c1_ (least_1,v2)=some r→At g0 w0 (ZaP.p1.S height_0 least_1 gates_1 v2 st) J1):At g0 w0 (ZaP.p2.S height_0 least_4 gates_1 v2 st) (XK Tryz.prog R [.c (csub ZaP.B [1,1,0,1,0,0,1,1,1]),.h J1,.b 0,.c (csub ZaP.B [1,1,1])]):=by
 unfold ZaP.p2 at h
 exact an fol [.r []] [0,5,8,9,10] [] trivial (hc1 least_4 (w64 (v2+1)) h)
theorem ZaP.p1_ok {height_0 least_1 gates_1 v2 st r c1_ J1} (h:ZaP.p1 N height_0 gates_1 c1_ (least_1,v2)=some r) (hE:En Tryz.f153 g0 w0 (ZaP.rs r) st R) (hc1 : ∀least_1 v2,c1_ (least_1,v2)=some r→At g0 w0 (ZaP.p1.S height_0 least_1 gates_1 v2 st) J1):At g0 w0 (ZaP.p1.S height_0 least_1 gates_1 v2 st) (XK Tryz.prog R (.c (csub ZaP.B [1,1,0,1,0,0]) :: .h J1 :: [.b 0,.c (csub ZaP.B [1,1,1])])):=by
 unfold ZaP.p1 at h
 refine iteB h (fun c1 h1=>?_) (fun c1 h2=>?_)
 ·obtain ⟨c2,h3⟩:=ZaN h1
  obtain ⟨x3,c3,h4⟩:=ZdF h3
  let o1:List PS:=[.r [],.c true,.r [(1,{oe:=x3.ls})],.r []]
  refine iteB h4 (fun c4 h5=>?_) (fun c4 h6=>?_)
  ·exact aq fol (o1 ++ [.c true,.r [],.s 4]) [0,5,8,9,10] [] (aL c1 c2 (oD c1) c3 c4) (ZaP.p2_ok h5 hE hc1)
  ·exact aq fol (o1 ++ [.c false,.s 4]) [0,5,8,9,10] [] (aL c1 c2 (oD c1) c3 c4) (ZaP.p2_ok h6 hE hc1)
 ·obtain rfl:=Zac h2
  exact af fol hE [.r [],.c false,.r []] [] 0 [] c1
theorem ZaP.snd {height_0:Int} {gates_1:LL} {r:Int} (h:ZaP N height_0 gates_1=some r):SndQ Tryz.prog 153 [oI height_0,.one (L.sl 2 gates_1)] (ZaP.rs r):=fun st=>
 sO ZaP.B Tryz.func153 fun g0 w0 R hE=>by
  unfold ZaP at h
  exact aq fol [.r [],.r [],.r []] [0,5,8,9,10] [] trivial (At.loop N (At.loopN (fun y:Int×Int=>ZaP.p1.S height_0 y.1 gates_1 y.2 st) (fun c J hc y h=>ZaP.p1_ok (least_1:=y.1) (v2:=y.2) h hE (fun least_1 v2=>hc (least_1,v2))) N ((-2147483648),0) h))
noncomputable def ZbB.B:Code:=Tryz.f154.body.getD .skip
noncomputable def ZbB.rs (r:Bool):List CV:=[oB r]
noncomputable def ZbB.p1 (N:Nat) (height_0:Int) (checks_2:LL) (id_1_0:List Int) (c1_:Int→Option Bool):Int→Option Bool:=fun v1=>
 if (decide (v1<(len checks_2)))=true then
  chk (0≤v1)<|
  getE (checks_2[Int.toNat v1]?) Zdp fun x2=>
  if (x2.Height==height_0)=true then
   if (!(x2.Id==id_1_0))=true then
    some false
   else
   c1_ (w64 (v1+1))
  else
  c1_ (w64 (v1+1))
 else
 some true
noncomputable def ZbB (N:Nat) (height_0:Int) (id_1_0:List Int) (checks_2:LL):Option Bool:=
 loopN (ZbB.p1 N height_0 checks_2 id_1_0) N 0
noncomputable def ZbB.p1.S (height_0:Int) (checks_2:LL) (v1:Int) (id_1_0:List Int) (st:LL):S:=mkS 26 [(0,sI height_0),(4,sA 4),(9,sV 33 checks_2),(10,sI (len checks_2)),(11,sI v1)] [(4,.cells [L.arr .u8 32 id_1_0])] st
theorem ZbB.p1_ok {height_0 checks_2 v1 id_1_0 st r c1_ J1} (h:ZbB.p1 N height_0 checks_2 id_1_0 c1_ v1=some r) (hE:En Tryz.f154 g0 w0 (ZbB.rs r) st R) (hc1 : ∀v1,c1_ v1=some r→At g0 w0 (ZbB.p1.S height_0 checks_2 v1 id_1_0 st) J1):At g0 w0 (ZbB.p1.S height_0 checks_2 v1 id_1_0 st) (XK Tryz.prog R (.c (csub ZbB.B [1,0,1,0,0]) :: .h J1 :: [.b 0,.c (csub ZbB.B [1,1])])):=by
 unfold ZbB.p1 at h
 refine iteB h (fun c1 h1=>?_) (fun c1 h2=>?_)
 ·obtain ⟨c2,h3⟩:=ZaN h1
  obtain ⟨x2,c3,h4⟩:=Zdx h3
  let o1:List PS:=[.r [],.c true,.r [(1,{oe:=x2.ls})]]
  refine iteB h4 (fun c4 h5=>?_) (fun c4 h6=>?_)
  ·have t1 {Q:Prop} (q:Q):=aO c1 c2 (oD c1) c3 c4 c4 c4 (aJ c4 c4 q)
   refine iteB h5 (fun c5 h7=>?_) (fun c5 h8=>?_)
   ·obtain rfl:=Zac h7
    exact af fol hE (o1 ++ [.r [],.c true,.r []]) [] 0 [] (t1 c5)
   ·exact an fol (o1 ++ [.r [],.c false,.r []]) [0,4,9,10,11] [4] (t1 c5) (hc1 (w64 (v1+1)) h8)
  ·exact an fol (o1 ++ [.r [(5,wF),(6,wF),(7,wF),(8,wF),(9,yF)],.c false,.r []]) [0,4,9,10,11] [4] (aO c1 c2 (oD c1) c3 c4 c4 c4 (aJ c4 c4 eF)) (hc1 (w64 (v1+1)) h6)
 ·obtain rfl:=Zac h2
  exact af fol hE [.r [],.c false,.r []] [] 0 [] c1
theorem ZbB.snd {height_0:Int} {id_1_0:List Int} {checks_2:LL} {r:Bool} (h:ZbB N height_0 id_1_0 checks_2=some r):SndQ Tryz.prog 154 [oI height_0,.agg [L.arr .u8 32 id_1_0],.one (L.sl 33 checks_2)] (ZbB.rs r):=fun st=>
 sO ZbB.B Tryz.func154 fun g0 w0 R hE=>by
  unfold ZbB at h
  exact aq fol [.r [],.r []] [0,4,9,10,11] [4] trivial (At.loop N (At.loopN (fun y:Int=>ZbB.p1.S height_0 checks_2 y id_1_0 st) (fun c J hc y h=>ZbB.p1_ok h hE (fun v1=>hc v1)) N 0 h))
noncomputable def ZcZ.B:Code:=Tryz.f92.body.getD .skip
noncomputable def ZcZ.rs (r:Int):List CV:=[oI r]
noncomputable def ZcZ (N:Nat) (p_0:Zag) (at_1:Zax) (h_2:Zaa) (now_3:Int):Option Int:=
 optE (Zce N h_2) fun x1=>
 if (!x1)=true then
  some 1
 else
 if (!(h_2.Prev==at_1.Prev))=true then
  some 2
 else
 optE (ZdO N p_0 at_1.Point h_2.Time) fun x2=>
 if (h_2.Bits != x2)=true then
  some 3
 else
 optE (Zdd N p_0 h_2) fun x3=>
 if (x3 != 0)=true then
  some 4
 else
 optE (ZcN N h_2.Time at_1.Times) fun x4=>
 if (!x4)=true then
  some 5
 else
 optE (Zdg N h_2.Time now_3 p_0.Future) fun x5=>
 if (!x5)=true then
  some 6
 else
 optE (ZaP N at_1.Point.Height p_0.Gates) fun x6=>
 if (decide (h_2.Version<x6))=true then
  some 7
 else
 optE (ZcS N h_2) fun x7=>
 optE (ZbB N at_1.Point.Height x7 p_0.Checks) fun x8=>
 if (!x8)=true then
  some 8
 else
 some 0
theorem ZcZ.snd {p_0:Zag} {at_1:Zax} {h_2:Zaa} {now_3:Int} {r:Int} (h:ZcZ N p_0 at_1 h_2 now_3=some r):SndQ Tryz.prog 92 [.agg p_0.ls,.agg at_1.ls,.agg h_2.ls,oI now_3] (ZcZ.rs r):=fun st=>
 sO ZcZ.B Tryz.func92 fun g0 w0 R hE=>by
  unfold ZcZ at h
  obtain ⟨x1,c1,h1⟩:=Zad h
  let o1:List PS:=[.r [],.r [(1,q1 [oB x1])]]
  have t1 {Q:Prop} (q:Q):=aI (Zce.snd c1) q
  refine iteB h1 (fun c2 h2=>?_) (fun c2 h3=>?_)
  ·obtain rfl:=Zac h2
   exact af fol hE (o1 ++ [.c true,.r []]) [] 0 [] (t1 c2)
  ·let o2:List PS:=o1 ++ [.c false,.r []]
   refine iteB h3 (fun c3 h4=>?_) (fun c3 h5=>?_)
   ·obtain rfl:=Zac h4
    exact af fol hE (o2 ++ [.c true,.r []]) [] 0 [] (t1 (aI c2 c3))
   ·obtain ⟨x2,c4,h6⟩:=Zad h5
    let o3:List PS:=o2 ++ [.c false,.d {ds:=[(7,q1 [oI x2])],hv:=0,Hs:=[]}]
    have t2 {Q:Prop} (q:Q):=t1 (aK c2 c3 (ZdO.snd c4) q)
    refine iteB h6 (fun c5 h7=>?_) (fun c5 h8=>?_)
    ·obtain rfl:=Zac h7
     exact afd fol hE (o3 ++ [.c true,.r []]) [] 0 [] (t2 c5)
    ·obtain ⟨x3,c6,h9⟩:=Zad h8
     let o4:List PS:=o3 ++ [.c false,.r [(2,q1 [oI x3])]]
     have t3 {Q:Prop} (q:Q):=t2 (aJ c5 (Zdd.snd c6) q)
     refine iteB h9 (fun c7 h10=>?_) (fun c7 h11=>?_)
     ·obtain rfl:=Zac h10
      exact afd fol hE (o4 ++ [.c true,.r []]) [] 0 [] (t3 c7)
     ·obtain ⟨x4,c8,h12⟩:=Zad h11
      let o5:List PS:=o4 ++ [.c false,.r [(4,q1 [oB x4])]]
      have t4 {Q:Prop} (q:Q):=t3 (aJ c7 (ZcN.snd c8) q)
      refine iteB h12 (fun c9 h13=>?_) (fun c9 h14=>?_)
      ·obtain rfl:=Zac h13
       exact afd fol hE (o5 ++ [.c true,.r []]) [] 0 [] (t4 c9)
      ·obtain ⟨x5,c10,h15⟩:=Zad h14
       let o6:List PS:=o5 ++ [.c false,.r [(5,q1 [oB x5])]]
       have t5 {Q:Prop} (q:Q):=t4 (aJ c9 (Zdg.snd c10) q)
       refine iteB h15 (fun c11 h16=>?_) (fun c11 h17=>?_)
       ·obtain rfl:=Zac h16
        exact afd fol hE (o6 ++ [.c true,.r []]) [] 0 [] (t5 c11)
       ·obtain ⟨x6,c12,h18⟩:=Zad h17
        let o7:List PS:=o6 ++ [.c false,.d {ds:=[(7,q1 [oI x6])],hv:=0,Hs:=[]}]
        have t6 {Q:Prop} (q:Q):=t5 (aJ c11 (ZaP.snd c12) q)
        refine iteB h18 (fun c13 h19=>?_) (fun c13 h20=>?_)
        ·obtain rfl:=Zac h19
         exact afd fol hE (o7 ++ [.c true,.r []]) [] 0 [] (t6 c13)
        ·obtain ⟨x7,c14,h21⟩:=Zad h20
         obtain ⟨x8,c15,h22⟩:=Zad h21
         let o8:List PS:=o7 ++ [.c false,.d {ds:=[(4,q1 [.agg [L.arr .u8 32 x7]]),(7,q1 [oB x8])],hv:=0,Hs:=[]}]
         have t7 {Q:Prop} (q:Q):=t6 (aK c13 (ZcS.snd c14) (ZbB.snd c15) q)
         refine iteB h22 (fun c16 h23=>?_) (fun c16 h24=>?_)
         ·obtain rfl:=Zac h23
          exact afd fol hE (o8 ++ [.c true,.r []]) [] 0 [] (t7 c16)
         ·obtain rfl:=Zac h24
          exact afd fol hE (o8 ++ [.c false,.r []]) [] 0 [] (t7 c16)
noncomputable def ZbQ.B:Code:=Tryz.f175.body.getD .skip
noncomputable def ZbQ.rs (r:(List Int)):List CV:=[.agg [L.arr .u64 4 r]]
noncomputable def ZbQ.p1 (N:Nat) (c1_:(Int×(List Int))→Option (List Int)):(Int×(List Int))→Option (List Int):=fun (v1,a_2)=>
 if (decide (v1<4))=true then
  chk (0≤v1)<|
  c1_ (w64 (v1+1),List.set a_2 (Int.toNat v1) (bitsOf .xor .u64 (IntKind.max IntKind.u64) (List.getD a_2 (Int.toNat v1) 0)))
 else
 some a_2
noncomputable def ZbQ (N:Nat) (a_0_0:List Int):Option (List Int):=
 loopN (ZbQ.p1 N) N (0,a_0_0)
noncomputable def ZbQ.p1.S (v1:Int) (a_2:List Int) (st:LL):S:=mkS 15 [(1,sA 1),(2,sA 2),(4,sI v1)] [(1,.cells [L.arr .u64 4 a_2]),(2,.cells [L.arr .u64 4 (List.replicate 4 0)])] st
theorem ZbQ.p1_ok {v1 a_2 st r c1_ J1} (h:ZbQ.p1 N c1_ (v1,a_2)=some r) (hE:En Tryz.f175 g0 w0 (ZbQ.rs r) st R) (hc1 : ∀v1 a_2,c1_ (v1,a_2)=some r→At g0 w0 (ZbQ.p1.S v1 a_2 st) J1):At g0 w0 (ZbQ.p1.S v1 a_2 st) (XK Tryz.prog R (.c (csub ZbQ.B [1,0,1,0,0]) :: .h J1 :: [.b 0,.c (csub ZbQ.B [1,1])])):=by
 unfold ZbQ.p1 at h
 refine iteB h (fun c3 h1=>?_) (fun c3 h2=>?_)
 ·obtain ⟨c4,h3⟩:=ZaN h1
  exact an fol [.r [],.c true,.r [],.r [],.r []] [1,2,4] [1,2] (aL c3 c4 (oD c3) c4 (oD c3)) (hc1 (w64 (v1+1)) (List.set a_2 (Int.toNat v1) (bitsOf .xor .u64 (IntKind.max IntKind.u64) (List.getD a_2 (Int.toNat v1) 0))) h3)
 ·obtain rfl:=Zac h2
  exact af fol hE [.r [],.c false,.r []] [] 0 [] c3
theorem ZbQ.snd {a_0_0:List Int} {r:(List Int)} (h:ZbQ N a_0_0=some r):SndQ Tryz.prog 175 [.agg [L.arr .u64 4 a_0_0]] (ZbQ.rs r):=fun st=>
 sO ZbQ.B Tryz.func175 fun g0 w0 R hE=>by
  unfold ZbQ at h
  exact aq fol [.r [],.r []] [1,2,4] [1,2] trivial (At.loop N (At.loopN (fun y:Int×(List Int)=>ZbQ.p1.S y.1 y.2 st) (fun c J hc y h=>ZbQ.p1_ok (v1:=y.1) (a_2:=y.2) h hE (fun v1 a_2=>hc (v1,a_2))) N (0,a_0_0) h))
noncomputable def Zcc.B:Code:=Tryz.f207.body.getD .skip
noncomputable def Zcc.rs (r:(List Int)×Bool):List CV:=[.agg [L.arr .u64 4 r.1],oB r.2]
noncomputable def Zcc.p1 (N:Nat) (b_1_0:List Int) (c1_:(Int×Int×(List Int))→Option ((List Int)×Bool)):(Int×Int×(List Int))→Option ((List Int)×Bool):=fun (c_1,v2,a_5)=>
 if (decide (v2<4))=true then
  chk (0≤v2)<|
  optE (ZdU N (List.getD a_5 (Int.toNat v2) 0) (List.getD b_1_0 (Int.toNat v2) 0) c_1) fun (x6,x7)=>
  c1_ (x7,w64 (v2+1),List.set a_5 (Int.toNat v2) x6)
 else
 some (a_5,c_1 != 0)
noncomputable def Zcc (N:Nat) (a_0_0 b_1_0:List Int):Option ((List Int)×Bool):=
 loopN (Zcc.p1 N b_1_0) N (0,0,a_0_0)
noncomputable def Zcc.p1.S (c_1 v2:Int) (a_5 b_1_0:List Int) (st:LL):S:=mkS 28 [(2,sA 2),(3,sA 3),(4,sA 4),(6,.one (.l (L.int .u64 c_1))),(8,sI v2)] [(2,.cells [L.arr .u64 4 a_5]),(3,.cells [L.arr .u64 4 b_1_0]),(4,.cells [L.arr .u64 4 (List.replicate 4 0)])] st
theorem Zcc.p1_ok {c_1 v2 a_5 b_1_0 st r c1_ J1} (h:Zcc.p1 N b_1_0 c1_ (c_1,v2,a_5)=some r) (hE:En Tryz.f207 g0 w0 (Zcc.rs r) st R) (hc1 : ∀c_1 v2 a_5,c1_ (c_1,v2,a_5)=some r→At g0 w0 (Zcc.p1.S c_1 v2 a_5 b_1_0 st) J1):At g0 w0 (Zcc.p1.S c_1 v2 a_5 b_1_0 st) (XK Tryz.prog R (.c (csub Zcc.B [1,1,0,1,0,0]) :: .h J1 :: [.b 0,.c (csub Zcc.B [1,1,1])])):=by
 unfold Zcc.p1 at h
 refine iteB h (fun c4 h1=>?_) (fun c4 h2=>?_)
 ·obtain ⟨c5,h3⟩:=ZaN h1
  obtain ⟨⟨x6,x7⟩,c6,h4⟩:=Zad h3
  exact and_ fol [.r [],.c true,.r [],.d {ds:=[(8,{rs:=[.one (L.int .u64 x6),.one (L.int .u64 x7)],m:=4})],hv:=8192,Hs:=[8192]},.r []] [2,3,4,6,8] [2,3,4] (aO c4 c5 (oD c4) c5 (oD c4) (ZdU.snd c6) c5 (oD c4)) (hc1 x7 (w64 (v2+1)) (List.set a_5 (Int.toNat v2) x6) h4)
 ·obtain rfl:=Zac h2
  exact af fol hE [.r [],.c false,.r []] [] 0 [] c4
theorem Zcc.snd {a_0_0 b_1_0:List Int} {r:(List Int)×Bool} (h:Zcc N a_0_0 b_1_0=some r):SndQ Tryz.prog 207 [.agg [L.arr .u64 4 a_0_0],.agg [L.arr .u64 4 b_1_0]] (Zcc.rs r):=fun st=>
 sO Zcc.B Tryz.func207 fun g0 w0 R hE=>by
  unfold Zcc at h
  exact aq fol [.r [],.r [],.r []] [2,3,4,6,8] [2,3,4] trivial (At.loop N (At.loopN (fun y:Int×Int×(List Int)=>Zcc.p1.S y.1 y.2.1 y.2.2 b_1_0 st) (fun c J hc y h=>Zcc.p1_ok (c_1:=y.1) (v2:=y.2.1) (a_5:=y.2.2) h hE (fun c_1 v2 a_5=>hc (c_1,v2,a_5))) N (0,0,a_0_0) h))
noncomputable def Zbl.B:Code:=Tryz.f179.body.getD .skip
noncomputable def Zbl.rs (r:(List Int)×(List Int)):List CV:=[.agg [L.arr .u64 4 r.1],.agg [L.arr .u64 4 r.2]]
noncomputable def Zbl.p2 (N:Nat) (c1_:(Int×(List Int)×(List Int))→Option ((List Int)×(List Int))) (i_3:Int) (a_0_0 by_1_0 out_21 rest_20:List Int):Option ((List Int)×(List Int)):=
 c1_ (w64 (i_3-1),out_21,rest_20)
noncomputable def Zbl.p1 (N:Nat) (a_0_0 by_1_0:List Int) (c1_:(Int×(List Int)×(List Int))→Option ((List Int)×(List Int))):(Int×(List Int)×(List Int))→Option ((List Int)×(List Int)):=fun (i_3,out_12,rest_13)=>
 if (decide (i_3≥0))=true then
  optE (Zbu N rest_13 1) fun x14=>
  chk (0≤(w64 (Int.tdiv i_3 64)))<|
  chk ((w64 (Int.tdiv i_3 64))<4)<|
  chk (0≤(Int.tmod i_3 64))<|
  if ((shrOf .u64 (List.getD rest_13 3 0) 63)==1)=true then
   optE (Zcc N (List.set x14 0 (bitsOf .or .u64 (List.getD x14 0 0) (bitsOf .and .u64 (shrOf .u64 (List.getD a_0_0 (Int.toNat (w64 (Int.tdiv i_3 64))) 0) (Int.tmod i_3 64)) 1))) by_1_0) fun (x15,x16)=>
   Zbl.p2 N c1_ i_3 a_0_0 by_1_0 (List.set out_12 (Int.toNat (w64 (Int.tdiv i_3 64))) (bitsOf .or .u64 (List.getD out_12 (Int.toNat (w64 (Int.tdiv i_3 64))) 0) (shlOf .u64 1 (Int.tmod i_3 64)))) x15
  else
  optE (Zcl N (List.set x14 0 (bitsOf .or .u64 (List.getD x14 0 0) (bitsOf .and .u64 (shrOf .u64 (List.getD a_0_0 (Int.toNat (w64 (Int.tdiv i_3 64))) 0) (Int.tmod i_3 64)) 1))) by_1_0) fun x17=>
  if (!x17)=true then
   optE (Zcc N (List.set x14 0 (bitsOf .or .u64 (List.getD x14 0 0) (bitsOf .and .u64 (shrOf .u64 (List.getD a_0_0 (Int.toNat (w64 (Int.tdiv i_3 64))) 0) (Int.tmod i_3 64)) 1))) by_1_0) fun (x18,x19)=>
   Zbl.p2 N c1_ i_3 a_0_0 by_1_0 (List.set out_12 (Int.toNat (w64 (Int.tdiv i_3 64))) (bitsOf .or .u64 (List.getD out_12 (Int.toNat (w64 (Int.tdiv i_3 64))) 0) (shlOf .u64 1 (Int.tmod i_3 64)))) x18
  else
  Zbl.p2 N c1_ i_3 a_0_0 by_1_0 out_12 (List.set x14 0 (bitsOf .or .u64 (List.getD x14 0 0) (bitsOf .and .u64 (shrOf .u64 (List.getD a_0_0 (Int.toNat (w64 (Int.tdiv i_3 64))) 0) (Int.tmod i_3 64)) 1)))
 else
 some (out_12,rest_13)
noncomputable def Zbl (N:Nat) (a_0_0 by_1_0:List Int):Option ((List Int)×(List Int)):=
 optE (Zcp N by_1_0) fun x1=>
 if x1=true then
  some (List.replicate 4 0,List.replicate 4 0)
 else
 optE (ZbY N a_0_0) fun x2=>
 loopN (Zbl.p1 N a_0_0 by_1_0) N (w64 (x2-1),List.replicate 4 0,List.replicate 4 0)
noncomputable def Zbl.p2.S (i_3:Int) (a_0_0 by_1_0 out_21 rest_20:List Int) (st:LL):S:=mkS 63 [(2,sA 2),(3,sA 3),(4,sA 4),(5,sA 5),(6,sA 6),(7,sA 7),(8,sI i_3)] [(2,.cells [L.arr .u64 4 a_0_0]),(3,.cells [L.arr .u64 4 by_1_0]),(4,.cells [L.arr .u64 4 (List.replicate 4 0)]),(5,.cells [L.arr .u64 4 (List.replicate 4 0)]),(6,.cells [L.arr .u64 4 out_21]),(7,.cells [L.arr .u64 4 rest_20])] st
noncomputable def Zbl.p1.S (i_3:Int) (a_0_0 by_1_0 out_12 rest_13:List Int) (st:LL):S:=mkS 63 [(2,sA 2),(3,sA 3),(4,sA 4),(5,sA 5),(6,sA 6),(7,sA 7),(8,sI i_3)] [(2,.cells [L.arr .u64 4 a_0_0]),(3,.cells [L.arr .u64 4 by_1_0]),(4,.cells [L.arr .u64 4 (List.replicate 4 0)]),(5,.cells [L.arr .u64 4 (List.replicate 4 0)]),(6,.cells [L.arr .u64 4 out_12]),(7,.cells [L.arr .u64 4 rest_13])] st
theorem Zbl.p2_ok {i_3 a_0_0 by_1_0 out_21 rest_20 st r c1_ J1} (h:Zbl.p2 N c1_ i_3 a_0_0 by_1_0 out_21 rest_20=some r) (hE:En Tryz.f179 g0 w0 (Zbl.rs r) st R) (hc1 : ∀i_3 out_12 rest_13,c1_ (i_3,out_12,rest_13)=some r→At g0 w0 (Zbl.p1.S i_3 a_0_0 by_1_0 out_12 rest_13 st) J1):At g0 w0 (Zbl.p2.S i_3 a_0_0 by_1_0 out_21 rest_20 st) (XK Tryz.prog R [.c (csub Zbl.B [1,1,1,0,1,0,0,1,1]),.h J1,.b 0,.c (csub Zbl.B [1,1,1,1])]):=by
 unfold Zbl.p2 at h
 exact an fol [.r []] [2,3,4,5,6,7,8] [2,3,4,5,6,7] trivial (hc1 (w64 (i_3-1)) out_21 rest_20 h)
theorem Zbl.p1_ok {i_3 a_0_0 by_1_0 out_12 rest_13 st r c1_ J1} (h:Zbl.p1 N a_0_0 by_1_0 c1_ (i_3,out_12,rest_13)=some r) (hE:En Tryz.f179 g0 w0 (Zbl.rs r) st R) (hc1 : ∀i_3 out_12 rest_13,c1_ (i_3,out_12,rest_13)=some r→At g0 w0 (Zbl.p1.S i_3 a_0_0 by_1_0 out_12 rest_13 st) J1):At g0 w0 (Zbl.p1.S i_3 a_0_0 by_1_0 out_12 rest_13 st) (XK Tryz.prog R (.c (csub Zbl.B [1,1,1,0,1,0,0]) :: .h J1 :: [.b 0,.c (csub Zbl.B [1,1,1,1])])):=by
 unfold Zbl.p1 at h
 refine iteB h (fun c14 h1=>?_) (fun c14 h2=>?_)
 ·obtain ⟨x14,c15,h3⟩:=Zad h1
  obtain ⟨c16,c17,c18,h4⟩:=ck3 h3
  let o1:List PS:=[.r [],.c true,.r [],.r [(1,q1 [.agg [L.arr .u64 4 x14]])],.d {ds:=[],hv:=4096,Hs:=[4096]}]
  have t1 {Q:Prop} (q:Q):=aI c14 (ix 3 4 (aJ (leI 0 63) (Zbu.snd c15) (ix 0 4 (aM (neI 64) c16 c17 (neI 64) c18 (ix 0 4 q)))))
  refine iteB h4 (fun c19 h5=>?_) (fun c19 h6=>?_)
  ·obtain ⟨⟨x15,x16⟩,c20,h7⟩:=Zad h5
   exact aqd fol (o1 ++ [.r [(2,wF),(3,wF),(4,wF),(5,wF)],.c true,.r [(2,q1 [.agg [L.arr .u64 4 x15],oB x16])],.d {ds:=[],hv:=512,Hs:=[512]},.s 4]) [2,3,4,5,6,7,8] [2,3,4,5,6,7] (t1 (aO c19 c19 c19 c19 c19 eT (Zcc.snd c20) (aN (neI 64) c16 c17 (neI 64) c18 c16 c17))) (Zbl.p2_ok h7 hE hc1)
  ·obtain ⟨x17,c21,h8⟩:=Zad h6
   let o2:List PS:=o1 ++ [.r [(4,q1 [oB x17]),(6,yF)]]
   have t2 {Q:Prop} (q:Q):=t1 (aN c19 c19 c19 (Zcl.snd c21) c19 c19 q)
   refine iteB h8 (fun c22 h9=>?_) (fun c22 h10=>?_)
   ·obtain ⟨⟨x18,x19⟩,c23,h11⟩:=Zad h9
    exact aqd fol (o2 ++ [.c true,.r [(2,q1 [.agg [L.arr .u64 4 x18],oB x19])],.d {ds:=[],hv:=512,Hs:=[512]},.s 4]) [2,3,4,5,6,7,8] [2,3,4,5,6,7] (t2 (aO c22 (Zcc.snd c23) (neI 64) c16 c17 (neI 64) c18 (aI c16 c17))) (Zbl.p2_ok h11 hE hc1)
   ·exact aqd fol (o2 ++ [.c false,.s 4]) [2,3,4,5,6,7,8] [2,3,4,5,6,7] (t2 c22) (Zbl.p2_ok h10 hE hc1)
 ·obtain rfl:=Zac h2
  exact afd fol hE [.r [],.c false,.d {ds:=[],hv:=12,Hs:=[4,12]}] [] 0 [] c14
theorem Zbl.snd {a_0_0 by_1_0:List Int} {r:(List Int)×(List Int)} (h:Zbl N a_0_0 by_1_0=some r):SndQ Tryz.prog 179 [.agg [L.arr .u64 4 a_0_0],.agg [L.arr .u64 4 by_1_0]] (Zbl.rs r):=fun st=>
 sO Zbl.B Tryz.func179 fun g0 w0 R hE=>by
  unfold Zbl at h
  obtain ⟨x1,c1,h12⟩:=Zad h
  let o3:List PS:=[.r [],.r [],.r [(1,q1 [oB x1])]]
  refine iteB h12 (fun c2 h13=>?_) (fun c2 h14=>?_)
  ·obtain rfl:=Zac h13
   exact afd fol hE (o3 ++ [.c true,.d {ds:=[],hv:=12,Hs:=[4,12]}]) [] 0 [] (aI (Zcp.snd c1) c2)
  ·obtain ⟨x2,c3,h15⟩:=Zad h14
   exact aq fol (o3 ++ [.c false,.r [(1,q1 [oI x2])]]) [2,3,4,5,6,7,8] [2,3,4,5,6,7] (aJ (Zcp.snd c1) c2 (ZbY.snd c3)) (At.loop N (At.loopN (fun y:Int×(List Int)×(List Int)=>Zbl.p1.S y.1 a_0_0 by_1_0 y.2.1 y.2.2 st) (fun c J hc y h=>Zbl.p1_ok (i_3:=y.1) (out_12:=y.2.1) (rest_13:=y.2.2) h hE (fun i_3 out_12 rest_13=>hc (i_3,out_12,rest_13))) N (w64 (x2-1),List.replicate 4 0,List.replicate 4 0) h15))
noncomputable def ZcY.B:Code:=Tryz.f115.body.getD .skip
noncomputable def ZcY.rs (r:(List Int)):List CV:=[.agg [L.arr .u64 4 r]]
noncomputable def ZcY (N:Nat):Option (List Int):=
 optE (ZbQ N (List.replicate 4 0)) fun x1=>
 some x1
theorem ZcY.snd {r:(List Int)} (h:ZcY N=some r):SndQ Tryz.prog 115 [] (ZcY.rs r):=fun st=>
 sO ZcY.B Tryz.func115 fun g0 w0 R hE=>by
  unfold ZcY at h
  obtain ⟨x1,c1,h1⟩:=Zad h
  obtain rfl:=Zac h1
  exact af fol hE [.r [],.r [(1,q1 [.agg [L.arr .u64 4 x1]])]] [] 0 [] (ZbQ.snd c1)
noncomputable def ZeD.B:Code:=Tryz.f118.body.getD .skip
noncomputable def ZeD.rs (r:(List Int)):List CV:=[.agg [L.arr .u64 4 r]]
noncomputable def ZeD (N:Nat) (target_0_0:List Int):Option (List Int):=
 optE (ZcH N 1) fun x1=>
 optE (Zbz N target_0_0 x1) fun (x2,x3)=>
 if x3=true then
  some x1
 else
 optE (ZbQ N target_0_0) fun x4=>
 optE (Zbl N x4 x2) fun (x5,x6)=>
 optE (Zbz N x5 x1) fun (x7,x8)=>
 if x8=true then
  optE (ZcY N ) fun x9=>
  some x9
 else
 some x7
theorem ZeD.snd {target_0_0:List Int} {r:(List Int)} (h:ZeD N target_0_0=some r):SndQ Tryz.prog 118 [.agg [L.arr .u64 4 target_0_0]] (ZeD.rs r):=fun st=>
 sO ZeD.B Tryz.func118 fun g0 w0 R hE=>by
  unfold ZeD at h
  obtain ⟨x1,c1,h1⟩:=Zad h
  obtain ⟨⟨x2,x3⟩,c2,h2⟩:=Zad h1
  let o1:List PS:=[.r [],.d {ds:=[(1,q1 [.agg [L.arr .u64 4 x1]]),(2,q1 [.agg [L.arr .u64 4 x2],oB x3])],hv:=192,Hs:=[64,192]},.r []]
  have t1 {Q:Prop} (q:Q):=aL (ZcH.snd c1) (ZcH.snd c1) (Zbz.snd c2) (Zbz.snd c2) q
  refine iteB h2 (fun c3 h3=>?_) (fun c3 h4=>?_)
  ·obtain rfl:=Zac h3
   exact afd fol hE (o1 ++ [.c true,.r [(0,q1 [.agg [L.arr .u64 4 x1]])]]) [] 0 [] (t1 (aI c3 (ZcH.snd c1)))
  ·obtain ⟨x4,c4,h5⟩:=Zad h4
   obtain ⟨⟨x5,x6⟩,c5,h6⟩:=Zad h5
   obtain ⟨⟨x7,x8⟩,c6,h7⟩:=Zad h6
   let o2:List PS:=o1 ++ [.c false,.d {ds:=[(1,q1 [.agg [L.arr .u64 4 x4]]),(3,q1 [.agg [L.arr .u64 4 x5],.agg [L.arr .u64 4 x6]])],hv:=1920,Hs:=[128,256,384,896,1920]},.d {ds:=[(1,q1 [.agg [L.arr .u64 4 x1]]),(2,q1 [.agg [L.arr .u64 4 x7],oB x8])],hv:=192,Hs:=[64,192]},.r []]
   have t2 {Q:Prop} (q:Q):=t1 (aO c3 (ZbQ.snd c4) (ZbQ.snd c4) (ZbQ.snd c4) (ZbQ.snd c4) (Zbl.snd c5) (Zbl.snd c5) (aN (Zbl.snd c5) (Zbl.snd c5) (ZcH.snd c1) (ZcH.snd c1) (Zbz.snd c6) (Zbz.snd c6) q))
   refine iteB h7 (fun c7 h8=>?_) (fun c7 h9=>?_)
   ·obtain ⟨x9,c8,h10⟩:=Zad h8
    obtain rfl:=Zac h10
    exact afd fol hE (o2 ++ [.c true,.r [(0,q1 [.agg [L.arr .u64 4 x9]])]]) [] 0 [] (t2 (aI c7 (ZcY.snd c8)))
   ·obtain rfl:=Zac h9
    exact afd fol hE (o2 ++ [.c false,.r []]) [] 0 [] (t2 c7)
noncomputable def ZcT.B:Code:=Tryz.f64.body.getD .skip
noncomputable def ZcT.rs (r:(List Int)):List CV:=[.agg [L.arr .u64 4 r]]
noncomputable def ZcT (N:Nat) (bits_0:Int):Option (List Int):=
 optE (ZaF N bits_0) fun (x1,x2,x3)=>
 if x2=true then
  some (List.replicate 4 0)
 else
 if x3=true then
  some (List.replicate 4 0)
 else
 optE (Zcp N x1) fun x4=>
 if x4=true then
  some (List.replicate 4 0)
 else
 optE (ZeD N x1) fun x5=>
 some x5
theorem ZcT.snd {bits_0:Int} {r:(List Int)} (h:ZcT N bits_0=some r):SndQ Tryz.prog 64 [oI bits_0] (ZcT.rs r):=fun st=>
 sO ZcT.B Tryz.func64 fun g0 w0 R hE=>by
  unfold ZcT at h
  obtain ⟨⟨x1,x2,x3⟩,c1,h1⟩:=Zad h
  let o1:List PS:=[.r [],.r [(1,q1 [.agg [L.arr .u64 4 x1],oB x2,oB x3])]]
  have t1 {Q:Prop} (q:Q):=aI (ZaF.snd c1) q
  refine iteB h1 (fun c2 h2=>?_) (fun c2 h3=>?_)
  ·obtain rfl:=Zac h2
   exact af fol hE (o1 ++ [.r [(2,wF),(5,wF),(6,wF)],.c true,.r []]) [] 0 [] (t1 (aM c2 c2 eT eT eT eT))
  ·refine iteB h3 (fun c3 h4=>?_) (fun c3 h5=>?_)
   ·obtain rfl:=Zac h4
    exact af fol hE (o1 ++ [.r [(3,yF),(5,wF),(6,wF)],.c true,.r []]) [] 0 [] (t1 (aM c2 c2 c3 c3 c3 eT))
   ·obtain ⟨x4,c4,h6⟩:=Zad h5
    let o2:List PS:=o1 ++ [.r [(3,yF),(6,q1 [oB x4]),(7,yF)]]
    refine iteB h6 (fun c5 h7=>?_) (fun c5 h8=>?_)
    ·obtain rfl:=Zac h7
     exact af fol hE (o2 ++ [.c true,.r []]) [] 0 [] (t1 (aN c2 c2 c3 c3 (Zcp.snd c4) c3 c5))
    ·obtain ⟨x5,c6,h9⟩:=Zad h8
     obtain rfl:=Zac h9
     exact af fol hE (o2 ++ [.c false,.r [(1,q1 [.agg [L.arr .u64 4 x5]])]]) [] 0 [] (t1 (aO c2 c2 c3 c3 (Zcp.snd c4) c3 c5 (ZeD.snd c6)))
noncomputable def ZbX.B:Code:=Tryz.f114.body.getD .skip
noncomputable def ZbX.rs (r:(List Int)×Bool):List CV:=[.agg [L.arr .u64 4 r.1],oB r.2]
noncomputable def ZbX.p1 (N:Nat) (list_0:LL) (c1_:(Bool×Int×(List Int))→Option ((List Int)×Bool)):(Bool×Int×(List Int))→Option ((List Int)×Bool):=fun (over_1,v2,out_6)=>
 if (decide (v2<(len list_0)))=true then
  chk (0≤v2)<|
  getE (list_0[Int.toNat v2]?) Zgt fun x7=>
  optE (Zbz N out_6 x7) fun (x8,x9)=>
  if over_1=true then
   c1_ (true,w64 (v2+1),x8)
  else
  c1_ (x9,w64 (v2+1),x8)
 else
 some (out_6,over_1)
noncomputable def ZbX (N:Nat) (list_0:LL):Option ((List Int)×Bool):=
 loopN (ZbX.p1 N list_0) N (false,0,List.replicate 4 0)
noncomputable def ZbX.p1.S (over_1:Bool) (list_0:LL) (v2:Int) (out_6:List Int) (st:LL):S:=mkS 28 [(2,sA 2),(4,sA 4),(5,.one (.l (L.bool over_1))),(9,sV 4 list_0),(10,sI (len list_0)),(11,sI v2)] [(2,.cells [L.arr .u64 4 (List.replicate 4 0)]),(4,.cells [L.arr .u64 4 out_6])] st
theorem ZbX.p1_ok {over_1 list_0 v2 out_6 st r c1_ J1} (h:ZbX.p1 N list_0 c1_ (over_1,v2,out_6)=some r) (hE:En Tryz.f114 g0 w0 (ZbX.rs r) st R) (hc1 : ∀over_1 v2 out_6,c1_ (over_1,v2,out_6)=some r→At g0 w0 (ZbX.p1.S over_1 list_0 v2 out_6 st) J1):At g0 w0 (ZbX.p1.S over_1 list_0 v2 out_6 st) (XK Tryz.prog R (.c (csub ZbX.B [1,1,1,0,1,0,0]) :: .h J1 :: [.b 0,.c (csub ZbX.B [1,1,1,1])])):=by
 unfold ZbX.p1 at h
 refine iteB h (fun c6 h1=>?_) (fun c6 h2=>?_)
 ·obtain ⟨c7,h3⟩:=ZaN h1
  obtain ⟨x7,c8,h4⟩:=Zjm h3
  obtain ⟨⟨x8,x9⟩,c9,h5⟩:=Zad h4
  let o1:List PS:=[.r [],.c true,.r [(1,{oe:=[L.arr .u64 4 x7]})],.r [],.r [(2,q1 [.agg [L.arr .u64 4 x8],oB x9])]]
  refine iteB h5 (fun c10 h6=>?_) (fun c10 h7=>?_)
  ·exact an fol (o1 ++ [.r [(2,wF)],.r []]) [2,4,5,9,10,11] [2,4] (aN c6 c7 (oD c6) c8 (Zbz.snd c9) c10 c10) (hc1 true (w64 (v2+1)) x8 h6)
  ·exact an fol (o1 ++ [.r [(3,yF)],.r []]) [2,4,5,9,10,11] [2,4] (aN c6 c7 (oD c6) c8 (Zbz.snd c9) c10 c10) (hc1 x9 (w64 (v2+1)) x8 h7)
 ·obtain rfl:=Zac h2
  exact af fol hE [.r [],.c false,.r []] [] 0 [] c6
theorem ZbX.snd {list_0:LL} {r:(List Int)×Bool} (h:ZbX N list_0=some r):SndQ Tryz.prog 114 [.one (L.sl 4 list_0)] (ZbX.rs r):=fun st=>
 sO ZbX.B Tryz.func114 fun g0 w0 R hE=>by
  unfold ZbX at h
  exact aq fol [.r [],.r [],.r [],.r []] [2,4,5,9,10,11] [2,4] trivial (At.loop N (At.loopN (fun y:Bool×Int×(List Int)=>ZbX.p1.S y.1 list_0 y.2.1 y.2.2 st) (fun c J hc y h=>ZbX.p1_ok (over_1:=y.1) (v2:=y.2.1) (out_6:=y.2.2) h hE (fun over_1 v2 out_6=>hc (over_1,v2,out_6))) N (false,0,List.replicate 4 0) h))
noncomputable def ZdY.B:Code:=Tryz.f63.body.getD .skip
noncomputable def ZdY.rs (r:(List Int)):List CV:=[.agg [L.arr .u64 4 r]]
noncomputable def ZdY (N:Nat) (list_0:LL):Option (List Int):=
 optE (ZbX N list_0) fun (x1,x2)=>
 if x2=true then
  optE (ZcY N ) fun x3=>
  some x3
 else
 some x1
theorem ZdY.snd {list_0:LL} {r:(List Int)} (h:ZdY N list_0=some r):SndQ Tryz.prog 63 [.one (L.sl 4 list_0)] (ZdY.rs r):=fun st=>
 sO ZdY.B Tryz.func63 fun g0 w0 R hE=>by
  unfold ZdY at h
  obtain ⟨⟨x1,x2⟩,c1,h1⟩:=Zad h
  let o1:List PS:=[.r [],.r [(1,q1 [.agg [L.arr .u64 4 x1],oB x2])],.r []]
  refine iteB h1 (fun c2 h2=>?_) (fun c2 h3=>?_)
  ·obtain ⟨x3,c3,h4⟩:=Zad h2
   obtain rfl:=Zac h4
   exact af fol hE (o1 ++ [.c true,.r [(0,q1 [.agg [L.arr .u64 4 x3]])]]) [] 0 [] (aJ (ZbX.snd c1) c2 (ZcY.snd c3))
  ·obtain rfl:=Zac h3
   exact af fol hE (o1 ++ [.c false,.r []]) [] 0 [] (aI (ZbX.snd c1) c2)
noncomputable def ZbZ.B:Code:=Tryz.f167.body.getD .skip
noncomputable def ZbZ.rs (r:Bool×LL):List CV:=[oB r.1]
noncomputable def ZbZ (N:Nat) (s_0:Option Nat) (h_1:Zaa) (now_2:Int) (st:LL):Option (Bool×LL):=
 optE s_0 fun i1=>
 getE (st[i1]?) Zby fun x2 x3 x4 x5 x6 x7 x8 x9 x10 x11 x12 x13 x14 x15 x16 x17 x18 x19 x20 x21 x22 x23 x24 x25 x26 x27 x28 x29 x30 x31 x32 x33 x34 x35 x36 x37=>
 optE (ZcZ N (Zag.mk x2 x3 x4 x5 x6 x7 x8 x9 x10 (Zaa.mk x11 x12 x13 x14 x15 x16)) (Zax.mk (Zbb.mk x25 x26 x27 x28 x29) x30 x31) h_1 now_2) fun x38=>
 if (x38 != 0)=true then
  some (false,st)
 else
 optE (Zcz N (Zag.mk x2 x3 x4 x5 x6 x7 x8 x9 x10 (Zaa.mk x11 x12 x13 x14 x15 x16)) (Zax.mk (Zbb.mk x25 x26 x27 x28 x29) x30 x31) h_1) fun x39=>
 optE (ZcT N h_1.Bits) fun x40=>
 optE (ZdY N [[L.arr .u64 4 x32],[L.arr .u64 4 x40]]) fun x41=>
 some (true,List.set st i1 [L.int .i64 x2,L.int .i64 x3,L.int .i64 x4,L.int .i64 x5,L.bool x6,L.sl 2 x7,L.sl 33 x8,L.arr .u64 4 x9,L.arr .u64 4 x10,L.int .i64 x11,L.arr .u8 32 x12,L.arr .u8 32 x13,L.int .i64 x14,L.int .i64 x15,L.int .i64 x16,L.int .i64 x17,L.int .i64 x18,L.int .i64 x19,L.int .i64 x20,L.int .i64 x21,L.arr .u8 32 x22,L.sl 1 x23,L.arr .u64 4 x24,L.int .i64 x39.Point.Height,L.int .i64 x39.Point.Bits,L.int .i64 x39.Point.Time,L.int .i64 x39.Point.First,L.int .i64 x39.Point.Hard,L.arr .u8 32 x39.Prev,L.sl 1 x39.Times,L.arr .u64 4 x41,L.ptr x33,L.int .i64 x34,L.int .i64 x35,L.int .i64 x36,L.own true 68 x37])
theorem ZbZ.snd {s_0:Option Nat} {h_1:Zaa} {now_2:Int} {st:LL} {r:Bool×LL} (h:ZbZ N s_0 h_1 now_2 st=some r):Snd Tryz.prog 167 [.one (L.ptr s_0),.agg h_1.ls,oI now_2] st (ZbZ.rs r) r.2:=
 sO ZbZ.B Tryz.func167 fun g0 w0 R hE=>by
  unfold ZbZ at h
  obtain ⟨i1,rfl,h1⟩:=Zad h
  obtain ⟨x2,x3,x4,x5,x6,x7,x8,x9,x10,x11,x12,x13,x14,x15,x16,x17,x18,x19,x20,x21,x22,x23,x24,x25,x26,x27,x28,x29,x30,x31,x32,x33,x34,x35,x36,x37,c2,h2⟩:=Zbv h1
  obtain ⟨x38,c3,h3⟩:=Zad h2
  let o1:List PS:=[.r [],.d {ds:=[(3,{oc:=[L.int .i64 x2,L.int .i64 x3,L.int .i64 x4,L.int .i64 x5,L.bool x6,L.sl 2 x7,L.sl 33 x8,L.arr .u64 4 x9,L.arr .u64 4 x10,L.int .i64 x11,L.arr .u8 32 x12,L.arr .u8 32 x13,L.int .i64 x14,L.int .i64 x15,L.int .i64 x16,L.int .i64 x17,L.int .i64 x18,L.int .i64 x19,L.int .i64 x20,L.int .i64 x21,L.arr .u8 32 x22,L.sl 1 x23,L.arr .u64 4 x24,L.int .i64 x25,L.int .i64 x26,L.int .i64 x27,L.int .i64 x28,L.int .i64 x29,L.arr .u8 32 x30,L.sl 1 x31,L.arr .u64 4 x32,L.ptr x33,L.int .i64 x34,L.int .i64 x35,L.int .i64 x36,L.own true 68 x37]}),(8,{oc:=[L.int .i64 x2,L.int .i64 x3,L.int .i64 x4,L.int .i64 x5,L.bool x6,L.sl 2 x7,L.sl 33 x8,L.arr .u64 4 x9,L.arr .u64 4 x10,L.int .i64 x11,L.arr .u8 32 x12,L.arr .u8 32 x13,L.int .i64 x14,L.int .i64 x15,L.int .i64 x16,L.int .i64 x17,L.int .i64 x18,L.int .i64 x19,L.int .i64 x20,L.int .i64 x21,L.arr .u8 32 x22,L.sl 1 x23,L.arr .u64 4 x24,L.int .i64 x25,L.int .i64 x26,L.int .i64 x27,L.int .i64 x28,L.int .i64 x29,L.arr .u8 32 x30,L.sl 1 x31,L.arr .u64 4 x32,L.ptr x33,L.int .i64 x34,L.int .i64 x35,L.int .i64 x36,L.own true 68 x37]}),(11,q1 [oI x38])],hv:=0,Hs:=[]}]
  refine iteB h3 (fun c4 h4=>?_) (fun c4 h5=>?_)
  ·obtain rfl:=Zac h4
   exact afd fol hE (o1 ++ [.c true,.r []]) [] 0 [] (aK c2 c2 (ZcZ.snd c3) c4)
  ·obtain ⟨x39,c5,h6⟩:=Zad h5
   obtain ⟨x40,c6,h7⟩:=Zad h6
   obtain ⟨x41,c7,h8⟩:=Zad h7
   obtain rfl:=Zac h8
   exact afd fol hE (o1 ++ [.c false,.d {ds:=[(4,{oc:=[L.int .i64 x2,L.int .i64 x3,L.int .i64 x4,L.int .i64 x5,L.bool x6,L.sl 2 x7,L.sl 33 x8,L.arr .u64 4 x9,L.arr .u64 4 x10,L.int .i64 x11,L.arr .u8 32 x12,L.arr .u8 32 x13,L.int .i64 x14,L.int .i64 x15,L.int .i64 x16,L.int .i64 x17,L.int .i64 x18,L.int .i64 x19,L.int .i64 x20,L.int .i64 x21,L.arr .u8 32 x22,L.sl 1 x23,L.arr .u64 4 x24,L.int .i64 x25,L.int .i64 x26,L.int .i64 x27,L.int .i64 x28,L.int .i64 x29,L.arr .u8 32 x30,L.sl 1 x31,L.arr .u64 4 x32,L.ptr x33,L.int .i64 x34,L.int .i64 x35,L.int .i64 x36,L.own true 68 x37]}),(9,{oc:=[L.int .i64 x2,L.int .i64 x3,L.int .i64 x4,L.int .i64 x5,L.bool x6,L.sl 2 x7,L.sl 33 x8,L.arr .u64 4 x9,L.arr .u64 4 x10,L.int .i64 x11,L.arr .u8 32 x12,L.arr .u8 32 x13,L.int .i64 x14,L.int .i64 x15,L.int .i64 x16,L.int .i64 x17,L.int .i64 x18,L.int .i64 x19,L.int .i64 x20,L.int .i64 x21,L.arr .u8 32 x22,L.sl 1 x23,L.arr .u64 4 x24,L.int .i64 x25,L.int .i64 x26,L.int .i64 x27,L.int .i64 x28,L.int .i64 x29,L.arr .u8 32 x30,L.sl 1 x31,L.arr .u64 4 x32,L.ptr x33,L.int .i64 x34,L.int .i64 x35,L.int .i64 x36,L.own true 68 x37]}),(11,q1 [.agg x39.ls]),(16,{oc:=[L.int .i64 x2,L.int .i64 x3,L.int .i64 x4,L.int .i64 x5,L.bool x6,L.sl 2 x7,L.sl 33 x8,L.arr .u64 4 x9,L.arr .u64 4 x10,L.int .i64 x11,L.arr .u8 32 x12,L.arr .u8 32 x13,L.int .i64 x14,L.int .i64 x15,L.int .i64 x16,L.int .i64 x17,L.int .i64 x18,L.int .i64 x19,L.int .i64 x20,L.int .i64 x21,L.arr .u8 32 x22,L.sl 1 x23,L.arr .u64 4 x24,L.int .i64 x25,L.int .i64 x26,L.int .i64 x27,L.int .i64 x28,L.int .i64 x29,L.arr .u8 32 x30,L.sl 1 x31,L.arr .u64 4 x32,L.ptr x33,L.int .i64 x34,L.int .i64 x35,L.int .i64 x36,L.own true 68 x37]}),(19,q1 [.agg [L.arr .u64 4 x40]]),(21,{rs:=[.agg [L.arr .u64 4 x41]],m:=2}),(25,{oc:=[L.int .i64 x2,L.int .i64 x3,L.int .i64 x4,L.int .i64 x5,L.bool x6,L.sl 2 x7,L.sl 33 x8,L.arr .u64 4 x9,L.arr .u64 4 x10,L.int .i64 x11,L.arr .u8 32 x12,L.arr .u8 32 x13,L.int .i64 x14,L.int .i64 x15,L.int .i64 x16,L.int .i64 x17,L.int .i64 x18,L.int .i64 x19,L.int .i64 x20,L.int .i64 x21,L.arr .u8 32 x22,L.sl 1 x23,L.arr .u64 4 x24,L.int .i64 x25,L.int .i64 x26,L.int .i64 x27,L.int .i64 x28,L.int .i64 x29,L.arr .u8 32 x30,L.sl 1 x31,L.arr .u64 4 x32,L.ptr x33,L.int .i64 x34,L.int .i64 x35,L.int .i64 x36,L.own true 68 x37]})],hv:=34603008,Hs:=[1048576,34603008]},.r []]) [] 0 [] (aO c2 c2 (ZcZ.snd c3) c4 c2 c2 (Zcz.snd c5) (aM c2 (ZcT.snd c6) z0 (eN (2)) (ZdY.snd c7) c2))
noncomputable def Zcg.B:Code:=Tryz.f200.body.getD .skip
noncomputable def Zcg.rs (r:Bool):List CV:=[oB r]
noncomputable def Zcg (N:Nat) (p_0:Zbj) (height_1:Int):Option Bool:=
 optE (Zcy N p_0) fun x1=>
 if x1=true then
  if (decide (height_1≥0))=true then
   chk (p_0.Period≠0)<|
   some ((Int.tmod height_1 p_0.Period)==p_0.Offset)
  else
  some false
 else
 some false
theorem Zcg.snd {p_0:Zbj} {height_1:Int} {r:Bool} (h:Zcg N p_0 height_1=some r):SndQ Tryz.prog 200 [.agg p_0.ls,oI height_1] (Zcg.rs r):=fun st=>
 sO Zcg.B Tryz.func200 fun g0 w0 R hE=>by
  unfold Zcg at h
  obtain ⟨x1,c1,h1⟩:=Zad h
  have t1 {Q:Prop} (q:Q):=aI (Zcy.snd c1) q
  refine iteB h1 (fun c2 h2=>?_) (fun c2 h3=>?_)
  ·refine iteB h2 (fun c3 h4=>?_) (fun c3 h5=>?_)
   ·obtain ⟨c4,h6⟩:=ZaN h4
    obtain rfl:=Zac h6
    exact afd fol hE [.r [],.d {ds:=[(1,q1 [oB x1])],hv:=0,Hs:=[]}] [] 0 [] (t1 (aO c2 c2 c2 c3 c3 c3 c3 (aL c4 c3 c3 c3 c3)))
   ·obtain rfl:=Zac h5
    exact afd fol hE [.r [],.d {ds:=[(1,q1 [oB x1]),(7,wF),(8,wF),(9,wF),(10,wF),(11,wF),(12,wF),(13,wF),(14,yF)],hv:=0,Hs:=[]}] [] 0 [] (t1 (aO c2 c2 c2 c3 c3 c3 c3 (aK c3 c3 c3 c3)))
  ·obtain rfl:=Zac h3
   exact afd fol hE [.r [],.d {ds:=[(1,q1 [oB x1]),(3,wF),(4,wF),(5,yF),(7,wF),(8,wF),(9,wF),(10,wF),(11,wF),(12,wF),(13,wF),(14,yF)],hv:=0,Hs:=[]}] [] 0 [] (t1 (aO c2 c2 c2 eF eF eF eF (aK eF eF eF eF)))
noncomputable def ZbF.B:Code:=Tryz.f201.body.getD .skip
noncomputable def ZbF.rs (r:Bool×LL):List CV:=[oB r.1]
noncomputable def ZbF (N:Nat) (p_0:Zbj) (id_1_0:List Int) (st:LL):Option (Bool×LL):=
 optE (ZaE N (some (List.length st)) 8 [[L.int .i64 p_0.Salt]] (st ++ [[L.own true 1 []]])) fun st1=>
 optE (ZaU N (some (List.length st)) [[L.arr .u8 32 id_1_0]] st1) fun st2=>
 getE (st2[List.length st]?) ZfR fun x3=>
 optE (ZbU N x3) fun x4=>
 optE (Zcu N [[L.str x4]] st2) fun (x5,st6)=>
 some ((bitsOf .and .u8 (List.getD x5 0 0) 1)==1,st6)
theorem ZbF.snd {p_0:Zbj} {id_1_0:List Int} {st:LL} {r:Bool×LL} (h:ZbF N p_0 id_1_0 st=some r):Snd Tryz.prog 201 [.agg p_0.ls,.agg [L.arr .u8 32 id_1_0]] st (ZbF.rs r) r.2:=
 sO ZbF.B Tryz.func201 fun g0 w0 R hE=>by
  unfold ZbF at h
  obtain ⟨st1,c1,h1⟩:=Zad h
  obtain ⟨st2,c2,h2⟩:=Zad h1
  obtain ⟨x3,c3,h3⟩:=Zep h2
  obtain ⟨x4,c4,h4⟩:=Zad h3
  obtain ⟨⟨x5,st6⟩,c5,h5⟩:=Zad h4
  obtain rfl:=Zac h5
  exact af fol hE [.r [],.r [(0,{ns:=[0]}),(1,{m:=1})],.r [(4,{st:=st1,fz:=[12]})],.r [(3,{st:=st2,fz:=[16]})],.r [(1,{rs:=[.one (L.str x4)],m:=10,cv:=[.one (L.bx 1 [L.sl 1 x3])]}),(3,{rs:=[.agg [L.arr .u8 32 x5]],st:=st6,fz:=[20]})],.r []] [] 0 [] (aO z0 (eN (1)) (ZaE.snd c1) z0 (eN (1)) (ZaU.snd c2) (bO 1 c3 ((bW bN):BVs st2 [L.own true 1 x3] [L.sl 1 x3])) (aM (ZbU.snd c4) z0 (eN (1)) (Zcu.snd c5) (leI 0 0) (ltI 0 32)))
noncomputable def Zak.B:Code:=Tryz.f168.body.getD .skip
noncomputable def Zak.rs (r:Int×LL):List CV:=[oI r.1]
noncomputable def Zak.p4 (N:Nat) (c1_:((Option Nat)×Int×Int×LL)→Option (Int×LL)) (i20:Nat) (height_1 n_31:Int) (names_2:LL) (v2:Int) (st32:LL):Option (Int×LL):=
 c1_ ((some i20),n_31,w64 (v2+1),st32)
noncomputable def Zak.p3 (N:Nat) (c1_:((Option Nat)×Int×Int×LL)→Option (Int×LL)) (i20:Nat) (height_1 n_1:Int) (names_2:LL) (v2:Int) (st29:LL):Option (Int×LL):=
 getE (st29[i20]?) Zbm fun x30=>
 Zak.p4 N c1_ i20 height_1 (w64 (n_1+1)) names_2 v2 (List.set st29 i20 (Zay.lo {x30 with given:=w64 (x30.given+1)}))
noncomputable def Zak.p2 (N:Nat) (c1_:((Option Nat)×Int×Int×LL)→Option (Int×LL)) (i20:Nat) (height_1 n_1:Int) (names_2:LL) (v2:Int) (x19:List Int) (st23:LL):Option (Int×LL):=
 getE (st23[i20]?) Zbm fun x24=>
 optE (ZbF N x24.Plan x19 st23) fun (x25,st26)=>
 if x25=true then
  getE (st26[i20]?) Zbm fun x27=>
  chk (0≤(w64 (Int.tdiv x27.given 64)))<|
  chk ((w64 (Int.tdiv x27.given 64))<(len x27.words))<|
  getE (x27.words[0+(Int.toNat (w64 (Int.tdiv x27.given 64)))]?) ZfZ fun x28=>
  chk (0≤(Int.tmod x27.given 64))<|
  Zak.p3 N c1_ i20 height_1 n_1 names_2 v2 (List.set st26 i20 (Zay.lo {x27 with words:=List.set x27.words (0+(Int.toNat (w64 (Int.tdiv x27.given 64)))) [L.int .u64 (bitsOf .or .u64 x28 (shlOf .u64 1 (Int.tmod x27.given 64)))]}))
 else
 Zak.p3 N c1_ i20 height_1 n_1 names_2 v2 st26
noncomputable def Zak.p1 (N:Nat) (height_1:Int) (names_2:LL) (c1_:((Option Nat)×Int×Int×LL)→Option (Int×LL)):((Option Nat)×Int×Int×LL)→Option (Int×LL):=fun (b_17,n_1,v2,st18)=>
 if (decide (v2<(len names_2)))=true then
  chk (0≤v2)<|
  getE (names_2[Int.toNat v2]?) ZfC fun x19=>
  optE b_17 fun i20=>
  getE (st18[i20]?) Zbm fun x21=>
  optE (Zcg N x21.Plan (w64 (height_1+v2))) fun x22=>
  if (!x22)=true then
   Zak.p4 N c1_ i20 height_1 n_1 names_2 v2 st18
  else
  if ((Int.tmod x21.given 64)==0)=true then
   chk (List.length (x21.words ++ [[L.int .u64 0]])*8≤140737488355328)<|
   Zak.p2 N c1_ i20 height_1 n_1 names_2 v2 x19 (List.set (List.set st18 i20 (gs x21.lo 3)) i20 (Zay.lo {x21 with words:=x21.words ++ [[L.int .u64 0]]}))
  else
  Zak.p2 N c1_ i20 height_1 n_1 names_2 v2 x19 st18
 else
 some (n_1,st18)
noncomputable def Zak (N:Nat) (b_0:Option Nat) (height_1:Int) (names_2 st:LL):Option (Int×LL):=
 if (Option.isNone b_0)=true then
  some (0,st)
 else
 loopN (Zak.p1 N height_1 names_2) N (b_0,0,0,st)
noncomputable def Zak.p4.S (i20:Nat) (height_1 n_31:Int) (names_2:LL) (v2:Int) (st32:LL):S:=mkS 79 [(0,sP (some i20)),(1,sI height_1),(7,sI n_31),(12,sV 32 names_2),(13,sI (len names_2)),(14,sI v2)] [] st32
noncomputable def Zak.p3.S (i20:Nat) (height_1 n_1:Int) (names_2:LL) (v2:Int) (st29:LL):S:=mkS 79 [(0,sP (some i20)),(1,sI height_1),(7,sI n_1),(12,sV 32 names_2),(13,sI (len names_2)),(14,sI v2)] [] st29
noncomputable def Zak.p2.S (i20:Nat) (height_1 n_1:Int) (names_2:LL) (v2:Int) (x19:List Int) (st23:LL):S:=mkS 79 [(0,sP (some i20)),(1,sI height_1),(7,sI n_1),(9,sA 9),(12,sV 32 names_2),(13,sI (len names_2)),(14,sI v2)] [(9,.cells [L.arr .u8 32 x19])] st23
noncomputable def Zak.p1.S (b_17:Option Nat) (height_1 n_1:Int) (names_2:LL) (v2:Int) (st18:LL):S:=mkS 79 [(0,sP b_17),(1,sI height_1),(7,sI n_1),(12,sV 32 names_2),(13,sI (len names_2)),(14,sI v2)] [] st18
theorem Zak.p4_ok {i20 height_1 n_31 names_2 v2 st32 r c1_ J1} (h:Zak.p4 N c1_ i20 height_1 n_31 names_2 v2 st32=some r) (hE:En Tryz.f168 g0 w0 (Zak.rs r) r.2 R) (hc1 : ∀b_17 n_1 v2 st18,c1_ (b_17,n_1,v2,st18)=some r→At g0 w0 (Zak.p1.S b_17 height_1 n_1 names_2 v2 st18) J1):At g0 w0 (Zak.p4.S i20 height_1 n_31 names_2 v2 st32) (XK Tryz.prog R [.c (csub Zak.B [1,1,1,0,1,0,0,1,1,1]),.h J1,.b 0,.c (csub Zak.B [1,1,1,1])]):=by
 unfold Zak.p4 at h
 exact an fol [.r []] [0,1,7,12,13,14] [] trivial (hc1 (some i20) n_31 (w64 (v2+1)) st32 h)
theorem Zak.p3_ok {i20 height_1 n_1 names_2 v2 st29 r c1_ J1} (h:Zak.p3 N c1_ i20 height_1 n_1 names_2 v2 st29=some r) (hE:En Tryz.f168 g0 w0 (Zak.rs r) r.2 R) (hc1 : ∀b_17 n_1 v2 st18,c1_ (b_17,n_1,v2,st18)=some r→At g0 w0 (Zak.p1.S b_17 height_1 n_1 names_2 v2 st18) J1):At g0 w0 (Zak.p3.S i20 height_1 n_1 names_2 v2 st29) (XK Tryz.prog R [.c (csub Zak.B [1,1,1,0,1,0,0,1,1,0,0,1,1,1,1]),.b 1,.c (csub Zak.B [1,1,1,0,1,0,0,1,1,1]),.h J1,.b 0,.c (csub Zak.B [1,1,1,1])]):=by
 unfold Zak.p3 at h
 obtain ⟨x30,c37,h1⟩:=ZbC h
 exact aq fol [.r [(3,{oc:=x30.lo}),(7,{oc:=x30.lo})],.r [],.s 4] [0,1,7,12,13,14] [] (aI c37 c37) (Zak.p4_ok h1 hE hc1)
theorem Zak.p2_ok {i20 height_1 n_1 names_2 v2 x19 st23 r c1_ J1} (h:Zak.p2 N c1_ i20 height_1 n_1 names_2 v2 x19 st23=some r) (hE:En Tryz.f168 g0 w0 (Zak.rs r) r.2 R) (hc1 : ∀b_17 n_1 v2 st18,c1_ (b_17,n_1,v2,st18)=some r→At g0 w0 (Zak.p1.S b_17 height_1 n_1 names_2 v2 st18) J1):At g0 w0 (Zak.p2.S i20 height_1 n_1 names_2 v2 x19 st23) (XK Tryz.prog R [.c (csub Zak.B [1,1,1,0,1,0,0,1,1,0,0,1,1,1]),.b 1,.c (csub Zak.B [1,1,1,0,1,0,0,1,1,1]),.h J1,.b 0,.c (csub Zak.B [1,1,1,1])]):=by
 unfold Zak.p2 at h
 obtain ⟨x24,c29,h2⟩:=ZbC h
 obtain ⟨⟨x25,st26⟩,c30,h3⟩:=Zad h2
 let o1:List PS:=[.d {ds:=[(3,{oc:=x24.lo}),(5,{rs:=[oB x25],st:=st26})],hv:=32,Hs:=[32]}]
 refine iteB h3 (fun c31 h4=>?_) (fun c31 h5=>?_)
 ·obtain ⟨x27,c32,h6⟩:=ZbC h4
  obtain ⟨c33,c34,h7⟩:=ck2 h6
  obtain ⟨x28,c35,h8⟩:=ZfY h7
  obtain ⟨c36,h9⟩:=ZaN h8
  exact aqd fol (o1 ++ [.c true,.d {ds:=[(3,{oc:=x27.lo}),(7,{oc:=x27.lo}),(10,{oc:=x27.lo,oe:=[L.int .u64 x28]}),(14,{oc:=x27.lo}),(19,{oc:=x27.lo})],hv:=524288,Hs:=[524288]},.s 6]) [0,1,7,12,13,14] [] (aO c29 (ZbF.snd c30) c31 c32 c32 (neI 64) c33 (aO c34 c35 c32 c32 (neI 64) c36 c33 (aI c34 c32))) (Zak.p3_ok h9 hE hc1)
 ·exact aqd fol (o1 ++ [.c false,.s 6]) [0,1,7,12,13,14] [] (aJ c29 (ZbF.snd c30) c31) (Zak.p3_ok h5 hE hc1)
theorem Zak.p1_ok {b_17 height_1 n_1 names_2 v2 st18 r c1_ J1} (h:Zak.p1 N height_1 names_2 c1_ (b_17,n_1,v2,st18)=some r) (hE:En Tryz.f168 g0 w0 (Zak.rs r) r.2 R) (hc1 : ∀b_17 n_1 v2 st18,c1_ (b_17,n_1,v2,st18)=some r→At g0 w0 (Zak.p1.S b_17 height_1 n_1 names_2 v2 st18) J1):At g0 w0 (Zak.p1.S b_17 height_1 n_1 names_2 v2 st18) (XK Tryz.prog R (.c (csub Zak.B [1,1,1,0,1,0,0]) :: .h J1 :: [.b 0,.c (csub Zak.B [1,1,1,1])])):=by
 unfold Zak.p1 at h
 refine iteB h (fun c20 h10=>?_) (fun c20 h11=>?_)
 ·obtain ⟨c21,h12⟩:=ZaN h10
  obtain ⟨x19,c22,h13⟩:=Zgr h12
  obtain ⟨i20,rfl,h14⟩:=Zad h13
  obtain ⟨x21,c24,h15⟩:=ZbC h14
  obtain ⟨x22,c25,h16⟩:=Zad h15
  let o2:List PS:=[.r [],.c true,.r [(2,{oe:=[L.arr .u8 32 x19]})],.r [(3,{oc:=x21.lo}),(7,q1 [oB x22])]]
  have t1 {Q:Prop} (q:Q):=aN c20 c21 (oD c20) c22 c24 (Zcg.snd c25) q
  refine iteB h16 (fun c26 h17=>?_) (fun c26 h18=>?_)
  ·exact aq fol (o2 ++ [.c true,.s 4]) [0,1,7,12,13,14] [] (t1 c26) (Zak.p4_ok h17 hE hc1)
  ·refine iteB h18 (fun c27 h19=>?_) (fun c27 h20=>?_)
   ·obtain ⟨c28,h21⟩:=ZaN h19
    exact aq fol (o2 ++ [.c false,.r [(3,{oc:=x21.lo})],.c true,.r [(4,{oc:=x21.lo}),(6,{oe:=x21.lo}),(9,{oc:=gs x21.lo 3,mv:=[40]})],.s 6]) [0,1,7,9,12,13,14] [9] (t1 (aO c26 c24 (neI 64) c27 c24 z0 (eN (List.length x21.words)) (aN c24 z0 (eN (1)) c28 (Zcf c24 (gs x21.lo 3)) z0 (eN (List.length (x21.words ++ [[L.int .u64 0]])))))) (Zak.p2_ok h21 hE hc1)
   ·exact aq fol (o2 ++ [.c false,.r [(3,{oc:=x21.lo})],.c false,.s 6]) [0,1,7,9,12,13,14] [9] (t1 (aK c26 c24 (neI 64) c27)) (Zak.p2_ok h20 hE hc1)
 ·obtain rfl:=Zac h11
  exact af fol hE [.r [],.c false,.r []] [] 0 [] c20
theorem Zak.snd {b_0:Option Nat} {height_1:Int} {names_2:LL} {st:LL} {r:Int×LL} (h:Zak N b_0 height_1 names_2 st=some r):Snd Tryz.prog 168 [.one (L.ptr b_0),oI height_1,.one (L.sl 32 names_2)] st (Zak.rs r) r.2:=
 sO Zak.B Tryz.func168 fun g0 w0 R hE=>by
  unfold Zak at h
  refine iteB h (fun c1 h22=>?_) (fun c1 h23=>?_)
  ·obtain rfl:=Zac h22
   exact af fol hE [.r [],.r [],.c true,.r []] [] 0 [] c1
  ·exact aq fol [.r [],.r [],.c false,.r [],.r []] [0,1,7,12,13,14] [] c1 (At.loop N (At.loopN (fun y:(Option Nat)×Int×Int×LL=>Zak.p1.S y.1 height_1 y.2.1 names_2 y.2.2.1 y.2.2.2) (fun c J hc y h=>Zak.p1_ok (b_17:=y.1) (n_1:=y.2.1) (v2:=y.2.2.1) (st18:=y.2.2.2) h hE (fun b_17 n_1 v2 st18=>hc (b_17,n_1,v2,st18))) N (b_0,0,0,st) h23))
noncomputable def Zcd.B:Code:=Tryz.f120.body.getD .skip
noncomputable def Zcd.rs (r:Int):List CV:=[oI r]
noncomputable def Zcd (N:Nat) (b_0:Zay):Option Int:=
 some b_0.given
theorem Zcd.snd {b_0:Zay} {r:Int} (h:Zcd N b_0=some r):SndQ Tryz.prog 120 [.one (L.bx 6 b_0.ls)] (Zcd.rs r):=fun st=>
 sO Zcd.B Tryz.func120 fun g0 w0 R hE=>by
  unfold Zcd at h
  obtain rfl:=Zac h
  exact af fol hE [.r [],.r [],.c false,.r [(3,{oe:=b_0.ls})]] [] 0 [] (aI eF (eO b_0.ls))
noncomputable def ZcM.B:Code:=Tryz.f120.body.getD .skip
noncomputable def ZcM.rs (r:Int×LL):List CV:=[oI r.1]
noncomputable def ZcM (N:Nat) (b_0:Option Nat) (st:LL):Option (Int×LL):=
 if (Option.isNone b_0)=true then
  some (0,st)
 else
 optE b_0 fun i1=>
 getE (st[i1]?) Zbm fun x2=>
 some (x2.given,st)
theorem ZcM.snd {b_0:Option Nat} {st:LL} {r:Int×LL} (h:ZcM N b_0 st=some r):Snd Tryz.prog 120 [.one (L.ptr b_0)] st (ZcM.rs r) r.2:=
 sO ZcM.B Tryz.func120 fun g0 w0 R hE=>by
  unfold ZcM at h
  refine iteB h (fun c1 h1=>?_) (fun c1 h2=>?_)
  ·obtain rfl:=Zac h1
   exact af fol hE [.r [],.r [],.c true,.r []] [] 0 [] c1
  ·obtain ⟨i1,rfl,h3⟩:=Zad h2
   obtain ⟨x2,c3,h4⟩:=ZbC h3
   obtain rfl:=Zac h4
   exact af fol hE [.r [],.r [],.c false,.r [(3,{oc:=x2.lo})]] [] 0 [] (aI c1 c3)
noncomputable def Zbi.B:Code:=Tryz.f169.body.getD .skip
noncomputable def Zbi.rs (r:Bool):List CV:=[oB r]
noncomputable def Zbi (N:Nat) (s_0:Zbg):Option Bool:=
 optE (Zcl N s_0.point.work s_0.rules.MinWork) fun x1=>
 some (!x1)
theorem Zbi.snd {s_0:Zbg} {r:Bool} (h:Zbi N s_0=some r):SndQ Tryz.prog 169 [.one (L.bx 172 s_0.ls)] (Zbi.rs r):=fun st=>
 sO Zbi.B Tryz.func169 fun g0 w0 R hE=>by
  unfold Zbi at h
  obtain ⟨x1,c1,h1⟩:=Zad h
  obtain rfl:=Zac h1
  exact afd fol hE [.r [],.d {ds:=[(4,{oe:=s_0.ls}),(9,{oe:=s_0.ls}),(10,q1 [oB x1])],hv:=0,Hs:=[]}] [] 0 [] (aJ (eO s_0.ls) (eO s_0.ls) (Zcl.snd c1))
noncomputable def ZaQ.B:Code:=Tryz.f107.body.getD .skip
noncomputable def ZaQ.rs (r:Int×LL):List CV:=[oI r.1]
noncomputable def ZaQ.p1 (N:Nat) (now_1:Int) (list_2:LL) (c1_:((Option Nat)×Int×LL)→Option (Int×LL)):((Option Nat)×Int×LL)→Option (Int×LL):=fun (s_121,v1,st122)=>
 if (decide (v1<(len list_2)))=true then
  chk (0≤v1)<|
  getE (list_2[Int.toNat v1]?) Zcs fun x123=>
  optE s_121 fun i124=>
  getE (st122[i124]?) Zby fun x125 x126 x127 x128 x129 x130 x131 x132 x133 x134 x135 x136 x137 x138 x139 x140 x141 x142 x143 x144 x145 x146 x147 x148 x149 x150 x151 x152 x153 x154 x155 x156 x157 x158 x159 x160=>
  optE (ZbZ N (some i124) x123 now_1 st122) fun (x161,st162)=>
  if (!x161)=true then
   some (8,st162)
  else
  getE (st162[i124]?) Zby fun x163 x164 x165 x166 x167 x168 x169 x170 x171 x172 x173 x174 x175 x176 x177 x178 x179 x180 x181 x182 x183 x184 x185 x186 x187 x188 x189 x190 x191 x192 x193 x194 x195 x196 x197 x198=>
  optE (ZcS N x123) fun x199=>
  optE (Zak N x194 x148 [[L.arr .u8 32 x199]] st162) fun (x200,st201)=>
  getE (st201[i124]?) Zby fun x202 x203 x204 x205 x206 x207 x208 x209 x210 x211 x212 x213 x214 x215 x216 x217 x218 x219 x220 x221 x222 x223 x224 x225 x226 x227 x228 x229 x230 x231 x232 x233 x234 x235 x236 x237=>
  optE x233 fun i238=>
  getE (st201[i238]?) Zbm fun x239=>
  optE (Zcd N x239) fun x240=>
  if (decide (x240>x235))=true then
   some (3,st201)
  else
  optE (Zbi N (Zbg.mk (Zag.mk x202 x203 x204 x205 x206 x207 x208 x209 x210 (Zaa.mk x211 x212 x213 x214 x215 x216)) (Zba.mk (Zax.mk (Zbb.mk x217 x218 x219 x220 x221) x222 x223) x224) (Zba.mk (Zax.mk (Zbb.mk x225 x226 x227 x228 x229) x230 x231) x232) x239 x234 x235 x236 x237)) fun x241=>
  if x241=true then
   some (0,List.set (List.set st201 i124 [L.int .i64 x202,L.int .i64 x203,L.int .i64 x204,L.int .i64 x205,L.bool x206,L.sl 2 x207,L.sl 33 x208,L.arr .u64 4 x209,L.arr .u64 4 x210,L.int .i64 x211,L.arr .u8 32 x212,L.arr .u8 32 x213,L.int .i64 x214,L.int .i64 x215,L.int .i64 x216,L.int .i64 x217,L.int .i64 x218,L.int .i64 x219,L.int .i64 x220,L.int .i64 x221,L.arr .u8 32 x222,L.sl 1 x223,L.arr .u64 4 x224,L.int .i64 x225,L.int .i64 x226,L.int .i64 x227,L.int .i64 x228,L.int .i64 x229,L.arr .u8 32 x230,L.sl 1 x231,L.arr .u64 4 x232,L.ptr (some i238),L.int .i64 2,L.int .i64 x235,L.int .i64 x236,L.own true 68 x237]) i124 [L.int .i64 x202,L.int .i64 x203,L.int .i64 x204,L.int .i64 x205,L.bool x206,L.sl 2 x207,L.sl 33 x208,L.arr .u64 4 x209,L.arr .u64 4 x210,L.int .i64 x211,L.arr .u8 32 x212,L.arr .u8 32 x213,L.int .i64 x214,L.int .i64 x215,L.int .i64 x216,L.int .i64 x217,L.int .i64 x218,L.int .i64 x219,L.int .i64 x220,L.int .i64 x221,L.arr .u8 32 x222,L.sl 1 x223,L.arr .u64 4 x224,L.int .i64 x217,L.int .i64 x218,L.int .i64 x219,L.int .i64 x220,L.int .i64 x221,L.arr .u8 32 x222,L.sl 1 x223,L.arr .u64 4 x224,L.ptr (some i238),L.int .i64 2,L.int .i64 x235,L.int .i64 x236,L.own true 68 x237])
  else
  c1_ ((some i124),w64 (v1+1),st201)
 else
 some (0,st122)
noncomputable def ZaQ (N:Nat) (s_0:Option Nat) (now_1:Int) (list_2 st:LL):Option (Int×LL):=
 loopN (ZaQ.p1 N now_1 list_2) N (s_0,0,st)
noncomputable def ZaQ.p1.S (s_121:Option Nat) (now_1:Int) (list_2:LL) (v1:Int) (st122:LL):S:=mkS 60 [(0,sP s_121),(1,sI now_1),(10,sV 68 list_2),(11,sI (len list_2)),(12,sI v1)] [] st122
theorem ZaQ.p1_ok {s_121 now_1 list_2 v1 st122 r c1_ J1} (h:ZaQ.p1 N now_1 list_2 c1_ (s_121,v1,st122)=some r) (hE:En Tryz.f107 g0 w0 (ZaQ.rs r) r.2 R) (hc1 : ∀s_121 v1 st122,c1_ (s_121,v1,st122)=some r→At g0 w0 (ZaQ.p1.S s_121 now_1 list_2 v1 st122) J1):At g0 w0 (ZaQ.p1.S s_121 now_1 list_2 v1 st122) (XK Tryz.prog R (.c (csub ZaQ.B [1,0,1,0,0]) :: .h J1 :: [.b 0,.c (csub ZaQ.B [1,1])])):=by
 unfold ZaQ.p1 at h
 refine iteB h (fun c18 h1=>?_) (fun c18 h2=>?_)
 ·obtain ⟨c19,h3⟩:=ZaN h1
  obtain ⟨x123,c20,h4⟩:=Zco h3
  obtain ⟨i124,rfl,h5⟩:=Zad h4
  obtain ⟨x125,x126,x127,x128,x129,x130,x131,x132,x133,x134,x135,x136,x137,x138,x139,x140,x141,x142,x143,x144,x145,x146,x147,x148,x149,x150,x151,x152,x153,x154,x155,x156,x157,x158,x159,x160,c22,h6⟩:=Zbv h5
  obtain ⟨⟨x161,st162⟩,c23,h7⟩:=Zad h6
  let o1:List PS:=[.r [],.c true,.r [(1,{oe:=x123.ls})],.r [(6,{oc:=[L.int .i64 x125,L.int .i64 x126,L.int .i64 x127,L.int .i64 x128,L.bool x129,L.sl 2 x130,L.sl 33 x131,L.arr .u64 4 x132,L.arr .u64 4 x133,L.int .i64 x134,L.arr .u8 32 x135,L.arr .u8 32 x136,L.int .i64 x137,L.int .i64 x138,L.int .i64 x139,L.int .i64 x140,L.int .i64 x141,L.int .i64 x142,L.int .i64 x143,L.int .i64 x144,L.arr .u8 32 x145,L.sl 1 x146,L.arr .u64 4 x147,L.int .i64 x148,L.int .i64 x149,L.int .i64 x150,L.int .i64 x151,L.int .i64 x152,L.arr .u8 32 x153,L.sl 1 x154,L.arr .u64 4 x155,L.ptr x156,L.int .i64 x157,L.int .i64 x158,L.int .i64 x159,L.own true 68 x160]})],.r [(3,{rs:=[oB x161],st:=st162})]]
  have t1 {Q:Prop} (q:Q):=aN c18 c19 (oD c18) c20 c22 (ZbZ.snd c23) q
  refine iteB h7 (fun c24 h8=>?_) (fun c24 h9=>?_)
  ·obtain rfl:=Zac h8
   exact af fol hE (o1 ++ [.c true,.r []]) [] 0 [] (t1 c24)
  ·obtain ⟨x163,x164,x165,x166,x167,x168,x169,x170,x171,x172,x173,x174,x175,x176,x177,x178,x179,x180,x181,x182,x183,x184,x185,x186,x187,x188,x189,x190,x191,x192,x193,x194,x195,x196,x197,x198,c25,h10⟩:=Zbv h9
   obtain ⟨x199,c26,h11⟩:=Zad h10
   obtain ⟨⟨x200,st201⟩,c27,h12⟩:=Zad h11
   obtain ⟨x202,x203,x204,x205,x206,x207,x208,x209,x210,x211,x212,x213,x214,x215,x216,x217,x218,x219,x220,x221,x222,x223,x224,x225,x226,x227,x228,x229,x230,x231,x232,x233,x234,x235,x236,x237,c28,h13⟩:=Zbv h12
   obtain ⟨i238,rfl,h14⟩:=Zad h13
   obtain ⟨x239,c30,h15⟩:=ZbC h14
   obtain ⟨x240,c31,h16⟩:=Zad h15
   let o2:List PS:=o1 ++ [.c false,.d {ds:=[(3,{oc:=[L.int .i64 x163,L.int .i64 x164,L.int .i64 x165,L.int .i64 x166,L.bool x167,L.sl 2 x168,L.sl 33 x169,L.arr .u64 4 x170,L.arr .u64 4 x171,L.int .i64 x172,L.arr .u8 32 x173,L.arr .u8 32 x174,L.int .i64 x175,L.int .i64 x176,L.int .i64 x177,L.int .i64 x178,L.int .i64 x179,L.int .i64 x180,L.int .i64 x181,L.int .i64 x182,L.arr .u8 32 x183,L.sl 1 x184,L.arr .u64 4 x185,L.int .i64 x186,L.int .i64 x187,L.int .i64 x188,L.int .i64 x189,L.int .i64 x190,L.arr .u8 32 x191,L.sl 1 x192,L.arr .u64 4 x193,L.ptr x194,L.int .i64 x195,L.int .i64 x196,L.int .i64 x197,L.own true 68 x198]}),(6,q1 [.agg [L.arr .u8 32 x199]]),(8,{rs:=[oI x200],st:=st201,fz:=[35]})],hv:=384,Hs:=[128,384]},.d {ds:=[(3,{oc:=[L.int .i64 x202,L.int .i64 x203,L.int .i64 x204,L.int .i64 x205,L.bool x206,L.sl 2 x207,L.sl 33 x208,L.arr .u64 4 x209,L.arr .u64 4 x210,L.int .i64 x211,L.arr .u8 32 x212,L.arr .u8 32 x213,L.int .i64 x214,L.int .i64 x215,L.int .i64 x216,L.int .i64 x217,L.int .i64 x218,L.int .i64 x219,L.int .i64 x220,L.int .i64 x221,L.arr .u8 32 x222,L.sl 1 x223,L.arr .u64 4 x224,L.int .i64 x225,L.int .i64 x226,L.int .i64 x227,L.int .i64 x228,L.int .i64 x229,L.arr .u8 32 x230,L.sl 1 x231,L.arr .u64 4 x232,L.ptr (some i238),L.int .i64 x234,L.int .i64 x235,L.int .i64 x236,L.own true 68 x237]}),(4,{rs:=[oI x240],m:=10,cv:=[.one (L.bx 6 x239.ls)]}),(8,{oc:=[L.int .i64 x202,L.int .i64 x203,L.int .i64 x204,L.int .i64 x205,L.bool x206,L.sl 2 x207,L.sl 33 x208,L.arr .u64 4 x209,L.arr .u64 4 x210,L.int .i64 x211,L.arr .u8 32 x212,L.arr .u8 32 x213,L.int .i64 x214,L.int .i64 x215,L.int .i64 x216,L.int .i64 x217,L.int .i64 x218,L.int .i64 x219,L.int .i64 x220,L.int .i64 x221,L.arr .u8 32 x222,L.sl 1 x223,L.arr .u64 4 x224,L.int .i64 x225,L.int .i64 x226,L.int .i64 x227,L.int .i64 x228,L.int .i64 x229,L.arr .u8 32 x230,L.sl 1 x231,L.arr .u64 4 x232,L.ptr (some i238),L.int .i64 x234,L.int .i64 x235,L.int .i64 x236,L.own true 68 x237]})],hv:=16,Hs:=[16]}]
   have t2 {Q:Prop} (q:Q):=t1 (aO c24 c25 c25 (ZcS.snd c26) z0 (eN (1)) (Zak.snd c27) (aM c28 (bO 6 c30 (Zay.bv x239)) (Zcd.snd c31) c28 c28 q))
   refine iteB h16 (fun c32 h17=>?_) (fun c32 h18=>?_)
   ·obtain rfl:=Zac h17
    exact afd fol hE (o2 ++ [.c true,.r []]) [] 0 [] (t2 c32)
   ·obtain ⟨x241,c33,h19⟩:=Zad h18
    let o3:List PS:=o2 ++ [.c false,.r [(1,{rs:=[oB x241],m:=10,cv:=[.one (L.bx 172 (Zbg.ls (Zbg.mk (Zag.mk x202 x203 x204 x205 x206 x207 x208 x209 x210 (Zaa.mk x211 x212 x213 x214 x215 x216)) (Zba.mk (Zax.mk (Zbb.mk x217 x218 x219 x220 x221) x222 x223) x224) (Zba.mk (Zax.mk (Zbb.mk x225 x226 x227 x228 x229) x230 x231) x232) x239 x234 x235 x236 x237)))]})]]
    have t3 {Q:Prop} (q:Q):=t2 (aK c32 (bO 172 c28 ((bP (bP (bP (bP (bP (bS (bS (bP (bP (bP (bP (bP (bP (bP (bP (bP (bP (bP (bP (bP (bP (bS (bP (bP (bP (bP (bP (bP (bP (bS (bP (bC 6 c30 (Zay.bv x239) (bP (bP (bP (bW bN)))))))))))))))))))))))))))))))))))):BVs st201 [L.int .i64 x202,L.int .i64 x203,L.int .i64 x204,L.int .i64 x205,L.bool x206,L.sl 2 x207,L.sl 33 x208,L.arr .u64 4 x209,L.arr .u64 4 x210,L.int .i64 x211,L.arr .u8 32 x212,L.arr .u8 32 x213,L.int .i64 x214,L.int .i64 x215,L.int .i64 x216,L.int .i64 x217,L.int .i64 x218,L.int .i64 x219,L.int .i64 x220,L.int .i64 x221,L.arr .u8 32 x222,L.sl 1 x223,L.arr .u64 4 x224,L.int .i64 x225,L.int .i64 x226,L.int .i64 x227,L.int .i64 x228,L.int .i64 x229,L.arr .u8 32 x230,L.sl 1 x231,L.arr .u64 4 x232,L.ptr (some i238),L.int .i64 x234,L.int .i64 x235,L.int .i64 x236,L.own true 68 x237] (Zbg.ls (Zbg.mk (Zag.mk x202 x203 x204 x205 x206 x207 x208 x209 x210 (Zaa.mk x211 x212 x213 x214 x215 x216)) (Zba.mk (Zax.mk (Zbb.mk x217 x218 x219 x220 x221) x222 x223) x224) (Zba.mk (Zax.mk (Zbb.mk x225 x226 x227 x228 x229) x230 x231) x232) x239 x234 x235 x236 x237)))) (Zbi.snd c33) q)
    refine iteB h19 (fun c34 h20=>?_) (fun c34 h21=>?_)
    ·obtain rfl:=Zac h20
     exact afd fol hE (o3 ++ [.c true,.r [(5,{oc:=[L.int .i64 x202,L.int .i64 x203,L.int .i64 x204,L.int .i64 x205,L.bool x206,L.sl 2 x207,L.sl 33 x208,L.arr .u64 4 x209,L.arr .u64 4 x210,L.int .i64 x211,L.arr .u8 32 x212,L.arr .u8 32 x213,L.int .i64 x214,L.int .i64 x215,L.int .i64 x216,L.int .i64 x217,L.int .i64 x218,L.int .i64 x219,L.int .i64 x220,L.int .i64 x221,L.arr .u8 32 x222,L.sl 1 x223,L.arr .u64 4 x224,L.int .i64 x225,L.int .i64 x226,L.int .i64 x227,L.int .i64 x228,L.int .i64 x229,L.arr .u8 32 x230,L.sl 1 x231,L.arr .u64 4 x232,L.ptr (some i238),L.int .i64 x234,L.int .i64 x235,L.int .i64 x236,L.own true 68 x237]}),(8,{oc:=[L.int .i64 x202,L.int .i64 x203,L.int .i64 x204,L.int .i64 x205,L.bool x206,L.sl 2 x207,L.sl 33 x208,L.arr .u64 4 x209,L.arr .u64 4 x210,L.int .i64 x211,L.arr .u8 32 x212,L.arr .u8 32 x213,L.int .i64 x214,L.int .i64 x215,L.int .i64 x216,L.int .i64 x217,L.int .i64 x218,L.int .i64 x219,L.int .i64 x220,L.int .i64 x221,L.arr .u8 32 x222,L.sl 1 x223,L.arr .u64 4 x224,L.int .i64 x225,L.int .i64 x226,L.int .i64 x227,L.int .i64 x228,L.int .i64 x229,L.arr .u8 32 x230,L.sl 1 x231,L.arr .u64 4 x232,L.ptr (some i238),L.int .i64 x234,L.int .i64 x235,L.int .i64 x236,L.own true 68 x237]}),(11,{oc:=[L.int .i64 x202,L.int .i64 x203,L.int .i64 x204,L.int .i64 x205,L.bool x206,L.sl 2 x207,L.sl 33 x208,L.arr .u64 4 x209,L.arr .u64 4 x210,L.int .i64 x211,L.arr .u8 32 x212,L.arr .u8 32 x213,L.int .i64 x214,L.int .i64 x215,L.int .i64 x216,L.int .i64 x217,L.int .i64 x218,L.int .i64 x219,L.int .i64 x220,L.int .i64 x221,L.arr .u8 32 x222,L.sl 1 x223,L.arr .u64 4 x224,L.int .i64 x225,L.int .i64 x226,L.int .i64 x227,L.int .i64 x228,L.int .i64 x229,L.arr .u8 32 x230,L.sl 1 x231,L.arr .u64 4 x232,L.ptr (some i238),L.int .i64 2,L.int .i64 x235,L.int .i64 x236,L.own true 68 x237]})],.r []]) [] 0 [] (t3 (aK c34 c28 c28 (Zcf c28 [L.int .i64 x202,L.int .i64 x203,L.int .i64 x204,L.int .i64 x205,L.bool x206,L.sl 2 x207,L.sl 33 x208,L.arr .u64 4 x209,L.arr .u64 4 x210,L.int .i64 x211,L.arr .u8 32 x212,L.arr .u8 32 x213,L.int .i64 x214,L.int .i64 x215,L.int .i64 x216,L.int .i64 x217,L.int .i64 x218,L.int .i64 x219,L.int .i64 x220,L.int .i64 x221,L.arr .u8 32 x222,L.sl 1 x223,L.arr .u64 4 x224,L.int .i64 x225,L.int .i64 x226,L.int .i64 x227,L.int .i64 x228,L.int .i64 x229,L.arr .u8 32 x230,L.sl 1 x231,L.arr .u64 4 x232,L.ptr (some i238),L.int .i64 2,L.int .i64 x235,L.int .i64 x236,L.own true 68 x237])))
    ·exact and_ fol (o3 ++ [.c false,.r []]) [0,1,10,11,12] [] (t3 c34) (hc1 (some i124) (w64 (v1+1)) st201 h21)
 ·obtain rfl:=Zac h2
  exact af fol hE [.r [],.c false,.r []] [] 0 [] c18
theorem ZaQ.snd {s_0:Option Nat} {now_1:Int} {list_2:LL} {st:LL} {r:Int×LL} (h:ZaQ N s_0 now_1 list_2 st=some r):Snd Tryz.prog 107 [.one (L.ptr s_0),oI now_1,.one (L.sl 68 list_2)] st (ZaQ.rs r) r.2:=
 sO ZaQ.B Tryz.func107 fun g0 w0 R hE=>by
  unfold ZaQ at h
  exact aq fol [.r [],.r []] [0,1,10,11,12] [] trivial (At.loop N (At.loopN (fun y:(Option Nat)×Int×LL=>ZaQ.p1.S y.1 now_1 list_2 y.2.1 y.2.2) (fun c J hc y h=>ZaQ.p1_ok (s_121:=y.1) (v1:=y.2.1) (st122:=y.2.2) h hE (fun s_121 v1 st122=>hc (s_121,v1,st122))) N (s_0,0,st) h))
noncomputable def Zcr.B:Code:=Tryz.f203.body.getD .skip
noncomputable def Zcr.rs (r:Bool):List CV:=[oB r]
noncomputable def Zcr (N:Nat) (b_0:Zay) (i_1:Int):Option Bool:=
 chk (0≤(w64 (Int.tdiv i_1 64)))<|
 chk ((w64 (Int.tdiv i_1 64))<(len b_0.words))<|
 getE (b_0.words[Int.toNat (w64 (Int.tdiv i_1 64))]?) ZfZ fun x1=>
 chk (0≤(Int.tmod i_1 64))<|
 some ((bitsOf .and .u64 (shrOf .u64 x1 (Int.tmod i_1 64)) 1)==1)
theorem Zcr.snd {b_0:Zay} {i_1:Int} {r:Bool} (h:Zcr N b_0 i_1=some r):SndQ Tryz.prog 203 [.one (L.bx 6 b_0.ls),oI i_1] (Zcr.rs r):=fun st=>
 sO Zcr.B Tryz.func203 fun g0 w0 R hE=>by
  unfold Zcr at h
  obtain ⟨c1,c2,h1⟩:=ck2 h
  obtain ⟨x1,c3,h2⟩:=ZfY h1
  obtain ⟨c4,h3⟩:=ZaN h2
  obtain rfl:=Zac h3
  exact af fol hE [.r [],.r [(3,{oe:=b_0.ls}),(7,{oe:=[L.int .u64 x1]})]] [] 0 [] (aN (eO b_0.ls) (neI 64) c1 c2 c3 (neI 64) c4)
noncomputable def Zdq.B:Code:=Tryz.f203.body.getD .skip
noncomputable def Zdq.rs (r:Bool×LL):List CV:=[oB r.1]
noncomputable def Zdq (N:Nat) (b_0:Option Nat) (i_1:Int) (st:LL):Option (Bool×LL):=
 optE b_0 fun i1=>
 getE (st[i1]?) Zbm fun x2=>
 chk (0≤(w64 (Int.tdiv i_1 64)))<|
 chk ((w64 (Int.tdiv i_1 64))<(len x2.words))<|
 getE (x2.words[0+(Int.toNat (w64 (Int.tdiv i_1 64)))]?) ZfZ fun x3=>
 chk (0≤(Int.tmod i_1 64))<|
 some ((bitsOf .and .u64 (shrOf .u64 x3 (Int.tmod i_1 64)) 1)==1,st)
theorem Zdq.snd {b_0:Option Nat} {i_1:Int} {st:LL} {r:Bool×LL} (h:Zdq N b_0 i_1 st=some r):Snd Tryz.prog 203 [.one (L.ptr b_0),oI i_1] st (Zdq.rs r) r.2:=
 sO Zdq.B Tryz.func203 fun g0 w0 R hE=>by
  unfold Zdq at h
  obtain ⟨i1,rfl,h1⟩:=Zad h
  obtain ⟨x2,c2,h2⟩:=ZbC h1
  obtain ⟨c3,c4,h3⟩:=ck2 h2
  obtain ⟨x3,c5,h4⟩:=ZfY h3
  obtain ⟨c6,h5⟩:=ZaN h4
  obtain rfl:=Zac h5
  exact af fol hE [.r [],.r [(3,{oc:=x2.lo}),(7,{oc:=x2.lo,oe:=[L.int .u64 x3]})]] [] 0 [] (aO c2 (neI 64) c3 c4 c5 c2 (neI 64) c6)
noncomputable def Zck.B:Code:=Tryz.f170.body.getD .skip
noncomputable def Zck.rs (r:Bool×LL):List CV:=[oB r.1]
noncomputable def Zck (N:Nat) (b_0:Option Nat) (height_1:Int) (id_2_0:List Int) (st:LL):Option (Bool×LL):=
 if (Option.isNone b_0)=true then
  some (false,st)
 else
 optE b_0 fun i1=>
 getE (st[i1]?) Zbm fun x2=>
 optE (Zcg N x2.Plan height_1) fun x3=>
 if (!x3)=true then
  some (true,st)
 else
 if (decide (x2.met≥x2.given))=true then
  some (false,st)
 else
 optE (Zcr N x2 x2.met) fun x4=>
 optE (ZbF N x2.Plan id_2_0 st) fun (x5,st6)=>
 if (!(x4==x5))=true then
  some (false,st6)
 else
 getE (st6[i1]?) Zbm fun x7=>
 some (true,List.set st6 i1 (Zay.lo {x7 with met:=w64 (x7.met+1)}))
theorem Zck.snd {b_0:Option Nat} {height_1:Int} {id_2_0:List Int} {st:LL} {r:Bool×LL} (h:Zck N b_0 height_1 id_2_0 st=some r):Snd Tryz.prog 170 [.one (L.ptr b_0),oI height_1,.agg [L.arr .u8 32 id_2_0]] st (Zck.rs r) r.2:=
 sO Zck.B Tryz.func170 fun g0 w0 R hE=>by
  unfold Zck at h
  refine iteB h (fun c1 h1=>?_) (fun c1 h2=>?_)
  ·obtain rfl:=Zac h1
   exact af fol hE [.r [],.r [],.c true,.r []] [] 0 [] c1
  ·obtain ⟨i1,rfl,h3⟩:=Zad h2
   obtain ⟨x2,c3,h4⟩:=ZbC h3
   obtain ⟨x3,c4,h5⟩:=Zad h4
   let o1:List PS:=[.r [],.r [],.c false,.r [(3,{oc:=x2.lo}),(5,q1 [oB x3])]]
   have t1 {Q:Prop} (q:Q):=aK c1 c3 (Zcg.snd c4) q
   refine iteB h5 (fun c5 h6=>?_) (fun c5 h7=>?_)
   ·obtain rfl:=Zac h6
    exact af fol hE (o1 ++ [.c true,.r []]) [] 0 [] (t1 c5)
   ·refine iteB h7 (fun c6 h8=>?_) (fun c6 h9=>?_)
    ·obtain rfl:=Zac h8
     exact afd fol hE (o1 ++ [.c false,.d {ds:=[(3,{oc:=x2.lo}),(7,{oc:=x2.lo}),(10,wF),(11,wF),(12,wF),(13,wF),(14,wF),(15,wF),(16,wF),(17,wF),(18,wF),(19,wF),(20,wF),(21,wF),(22,wF)],hv:=0,Hs:=[]},.c true,.r []]) [] 0 [] (t1 (aO c5 c3 c3 c6 c6 c6 c6 (aO c6 c6 c6 c6 c6 c6 c6 (aK c6 c6 c6 eT))))
    ·obtain ⟨x4,c7,h10⟩:=Zad h9
     obtain ⟨⟨x5,st6⟩,c8,h11⟩:=Zad h10
     let o2:List PS:=o1 ++ [.c false,.d {ds:=[(3,{oc:=x2.lo}),(7,{oc:=x2.lo}),(14,{oc:=x2.lo}),(15,{rs:=[oB x4],m:=10,cv:=[.one (L.bx 6 x2.ls)]}),(19,{oc:=x2.lo}),(21,{rs:=[oB x5],st:=st6}),(23,yF)],hv:=2129920,Hs:=[32768,2129920]}]
     have t2 {Q:Prop} (q:Q):=t1 (aO c5 c3 c3 c6 c6 c6 c6 (aO c6 c3 c6 (bO 6 c3 (Zay.bv x2)) (Zcr.snd c7) c6 c6 (aO c6 c6 c6 c6 c6 c3 c6 (aO c3 c6 c6 c6 (ZbF.snd c8) c6 c6 q))))
     refine iteB h11 (fun c9 h12=>?_) (fun c9 h13=>?_)
     ·obtain rfl:=Zac h12
      exact afd fol hE (o2 ++ [.c true,.r []]) [] 0 [] (t2 c9)
     ·obtain ⟨x7,c10,h14⟩:=ZbC h13
      obtain rfl:=Zac h14
      exact afd fol hE (o2 ++ [.c false,.r [(3,{oc:=x7.lo}),(7,{oc:=x7.lo})],.r []]) [] 0 [] (t2 (aJ c9 c10 c10))
noncomputable def Zan.B:Code:=Tryz.f108.body.getD .skip
noncomputable def Zan.rs (r:Int×LL):List CV:=[oI r.1]
noncomputable def Zan.p3 (N:Nat) (c1_:((Option Nat)×Int×LL)→Option (Int×LL)) (i126:Nat) (now_1:Int) (list_2:LL) (v1 x197:Int) (v204:Bool) (st245:LL):Option (Int×LL):=
 c1_ ((some i126),w64 (v1+1),st245)
noncomputable def Zan.p2 (N:Nat) (c1_:((Option Nat)×Int×LL)→Option (Int×LL)) (i126:Nat) (now_1:Int) (list_2:LL) (v1 x197:Int) (v204:Bool) (x125:Zaa) (st205:LL):Option (Int×LL):=
 getE (st205[i126]?) Zby fun x206 x207 x208 x209 x210 x211 x212 x213 x214 x215 x216 x217 x218 x219 x220 x221 x222 x223 x224 x225 x226 x227 x228 x229 x230 x231 x232 x233 x234 x235 x236 x237 x238 x239 x240 x241=>
 chk (List.length (x241 ++ [x125.ls])*96≤140737488355328)<|
 optE x237 fun i242=>
 getE ((List.set (List.set st205 i126 [L.int .i64 x206,L.int .i64 x207,L.int .i64 x208,L.int .i64 x209,L.bool x210,L.sl 2 x211,L.sl 33 x212,L.arr .u64 4 x213,L.arr .u64 4 x214,L.int .i64 x215,L.arr .u8 32 x216,L.arr .u8 32 x217,L.int .i64 x218,L.int .i64 x219,L.int .i64 x220,L.int .i64 x221,L.int .i64 x222,L.int .i64 x223,L.int .i64 x224,L.int .i64 x225,L.arr .u8 32 x226,L.sl 1 x227,L.arr .u64 4 x228,L.int .i64 x229,L.int .i64 x230,L.int .i64 x231,L.int .i64 x232,L.int .i64 x233,L.arr .u8 32 x234,L.sl 1 x235,L.arr .u64 4 x236,L.ptr (some i242),L.int .i64 x238,L.int .i64 x239,L.int .i64 x240,L.gone]) i126 [L.int .i64 x206,L.int .i64 x207,L.int .i64 x208,L.int .i64 x209,L.bool x210,L.sl 2 x211,L.sl 33 x212,L.arr .u64 4 x213,L.arr .u64 4 x214,L.int .i64 x215,L.arr .u8 32 x216,L.arr .u8 32 x217,L.int .i64 x218,L.int .i64 x219,L.int .i64 x220,L.int .i64 x221,L.int .i64 x222,L.int .i64 x223,L.int .i64 x224,L.int .i64 x225,L.arr .u8 32 x226,L.sl 1 x227,L.arr .u64 4 x228,L.int .i64 x229,L.int .i64 x230,L.int .i64 x231,L.int .i64 x232,L.int .i64 x233,L.arr .u8 32 x234,L.sl 1 x235,L.arr .u64 4 x236,L.ptr (some i242),L.int .i64 x238,L.int .i64 x239,L.int .i64 x240,L.own true 68 (x241 ++ [x125.ls])])[i242]?) Zbm fun x243=>
 optE (Zbi N (Zbg.mk (Zag.mk x206 x207 x208 x209 x210 x211 x212 x213 x214 (Zaa.mk x215 x216 x217 x218 x219 x220)) (Zba.mk (Zax.mk (Zbb.mk x221 x222 x223 x224 x225) x226 x227) x228) (Zba.mk (Zax.mk (Zbb.mk x229 x230 x231 x232 x233) x234 x235) x236) x243 x238 x239 x240 (x241 ++ [x125.ls]))) fun x244=>
 if x244=true then
  Zan.p3 N c1_ i126 now_1 list_2 v1 x197 v204 (List.set (List.set (List.set st205 i126 [L.int .i64 x206,L.int .i64 x207,L.int .i64 x208,L.int .i64 x209,L.bool x210,L.sl 2 x211,L.sl 33 x212,L.arr .u64 4 x213,L.arr .u64 4 x214,L.int .i64 x215,L.arr .u8 32 x216,L.arr .u8 32 x217,L.int .i64 x218,L.int .i64 x219,L.int .i64 x220,L.int .i64 x221,L.int .i64 x222,L.int .i64 x223,L.int .i64 x224,L.int .i64 x225,L.arr .u8 32 x226,L.sl 1 x227,L.arr .u64 4 x228,L.int .i64 x229,L.int .i64 x230,L.int .i64 x231,L.int .i64 x232,L.int .i64 x233,L.arr .u8 32 x234,L.sl 1 x235,L.arr .u64 4 x236,L.ptr (some i242),L.int .i64 x238,L.int .i64 x239,L.int .i64 x240,L.gone]) i126 [L.int .i64 x206,L.int .i64 x207,L.int .i64 x208,L.int .i64 x209,L.bool x210,L.sl 2 x211,L.sl 33 x212,L.arr .u64 4 x213,L.arr .u64 4 x214,L.int .i64 x215,L.arr .u8 32 x216,L.arr .u8 32 x217,L.int .i64 x218,L.int .i64 x219,L.int .i64 x220,L.int .i64 x221,L.int .i64 x222,L.int .i64 x223,L.int .i64 x224,L.int .i64 x225,L.arr .u8 32 x226,L.sl 1 x227,L.arr .u64 4 x228,L.int .i64 x229,L.int .i64 x230,L.int .i64 x231,L.int .i64 x232,L.int .i64 x233,L.arr .u8 32 x234,L.sl 1 x235,L.arr .u64 4 x236,L.ptr (some i242),L.int .i64 x238,L.int .i64 x239,L.int .i64 x240,L.own true 68 (x241 ++ [x125.ls])]) i126 [L.int .i64 x206,L.int .i64 x207,L.int .i64 x208,L.int .i64 x209,L.bool x210,L.sl 2 x211,L.sl 33 x212,L.arr .u64 4 x213,L.arr .u64 4 x214,L.int .i64 x215,L.arr .u8 32 x216,L.arr .u8 32 x217,L.int .i64 x218,L.int .i64 x219,L.int .i64 x220,L.int .i64 x221,L.int .i64 x222,L.int .i64 x223,L.int .i64 x224,L.int .i64 x225,L.arr .u8 32 x226,L.sl 1 x227,L.arr .u64 4 x228,L.int .i64 x229,L.int .i64 x230,L.int .i64 x231,L.int .i64 x232,L.int .i64 x233,L.arr .u8 32 x234,L.sl 1 x235,L.arr .u64 4 x236,L.ptr (some i242),L.int .i64 3,L.int .i64 x239,L.int .i64 x240,L.own true 68 (x241 ++ [x125.ls])])
 else
 Zan.p3 N c1_ i126 now_1 list_2 v1 x197 v204 (List.set (List.set st205 i126 [L.int .i64 x206,L.int .i64 x207,L.int .i64 x208,L.int .i64 x209,L.bool x210,L.sl 2 x211,L.sl 33 x212,L.arr .u64 4 x213,L.arr .u64 4 x214,L.int .i64 x215,L.arr .u8 32 x216,L.arr .u8 32 x217,L.int .i64 x218,L.int .i64 x219,L.int .i64 x220,L.int .i64 x221,L.int .i64 x222,L.int .i64 x223,L.int .i64 x224,L.int .i64 x225,L.arr .u8 32 x226,L.sl 1 x227,L.arr .u64 4 x228,L.int .i64 x229,L.int .i64 x230,L.int .i64 x231,L.int .i64 x232,L.int .i64 x233,L.arr .u8 32 x234,L.sl 1 x235,L.arr .u64 4 x236,L.ptr (some i242),L.int .i64 x238,L.int .i64 x239,L.int .i64 x240,L.gone]) i126 [L.int .i64 x206,L.int .i64 x207,L.int .i64 x208,L.int .i64 x209,L.bool x210,L.sl 2 x211,L.sl 33 x212,L.arr .u64 4 x213,L.arr .u64 4 x214,L.int .i64 x215,L.arr .u8 32 x216,L.arr .u8 32 x217,L.int .i64 x218,L.int .i64 x219,L.int .i64 x220,L.int .i64 x221,L.int .i64 x222,L.int .i64 x223,L.int .i64 x224,L.int .i64 x225,L.arr .u8 32 x226,L.sl 1 x227,L.arr .u64 4 x228,L.int .i64 x229,L.int .i64 x230,L.int .i64 x231,L.int .i64 x232,L.int .i64 x233,L.arr .u8 32 x234,L.sl 1 x235,L.arr .u64 4 x236,L.ptr (some i242),L.int .i64 x238,L.int .i64 x239,L.int .i64 x240,L.own true 68 (x241 ++ [x125.ls])])
noncomputable def Zan.p1 (N:Nat) (now_1:Int) (list_2:LL) (c1_:((Option Nat)×Int×LL)→Option (Int×LL)):((Option Nat)×Int×LL)→Option (Int×LL):=fun (s_123,v1,st124)=>
 if (decide (v1<(len list_2)))=true then
  chk (0≤v1)<|
  getE (list_2[Int.toNat v1]?) Zcs fun x125=>
  optE s_123 fun i126=>
  getE (st124[i126]?) Zby fun x127 x128 x129 x130 x131 x132 x133 x134 x135 x136 x137 x138 x139 x140 x141 x142 x143 x144 x145 x146 x147 x148 x149 x150 x151 x152 x153 x154 x155 x156 x157 x158 x159 x160 x161 x162=>
  optE (ZbZ N (some i126) x125 now_1 st124) fun (x163,st164)=>
  if (!x163)=true then
   some (8,st164)
  else
  getE (st164[i126]?) Zby fun x165 x166 x167 x168 x169 x170 x171 x172 x173 x174 x175 x176 x177 x178 x179 x180 x181 x182 x183 x184 x185 x186 x187 x188 x189 x190 x191 x192 x193 x194 x195 x196 x197 x198 x199 x200=>
  if (x197==2)=true then
   optE (ZcS N x125) fun x201=>
   optE (Zck N x196 x150 x201 st164) fun (x202,st203)=>
   if (!x202)=true then
    some (8,st203)
   else
   Zan.p2 N c1_ i126 now_1 list_2 v1 x197 (!x202) x125 st203
  else
  Zan.p2 N c1_ i126 now_1 list_2 v1 x197 false x125 st164
 else
 some (0,st124)
noncomputable def Zan (N:Nat) (s_0:Option Nat) (now_1:Int) (list_2 st:LL):Option (Int×LL):=
 loopN (Zan.p1 N now_1 list_2) N (s_0,0,st)
noncomputable def Zan.p3.S (i126:Nat) (now_1:Int) (list_2:LL) (v1 x197:Int) (v204:Bool) (st245:LL):S:=mkS 62 [(0,sP (some i126)),(1,sI now_1),(10,sV 68 list_2),(11,sI (len list_2)),(12,sI v1),(29,sP (some i126)),(30,sP (some i126)),(31,.one (.adr (.obj i126) 168)),(32,sI x197),(33,.one (.l (L.bool (x197==2)))),(34,.one (.l (L.bool (x197==2)))),(44,.one (.l (L.bool v204)))] [] st245
noncomputable def Zan.p2.S (i126:Nat) (now_1:Int) (list_2:LL) (v1 x197:Int) (v204:Bool) (x125:Zaa) (st205:LL):S:=mkS 62 [(0,sP (some i126)),(1,sI now_1),(8,sA 8),(10,sV 68 list_2),(11,sI (len list_2)),(12,sI v1),(29,sP (some i126)),(30,sP (some i126)),(31,.one (.adr (.obj i126) 168)),(32,sI x197),(33,.one (.l (L.bool (x197==2)))),(34,.one (.l (L.bool (x197==2)))),(44,.one (.l (L.bool v204)))] [(8,.cells x125.ls)] st205
noncomputable def Zan.p1.S (s_123:Option Nat) (now_1:Int) (list_2:LL) (v1:Int) (st124:LL):S:=mkS 62 [(0,sP s_123),(1,sI now_1),(10,sV 68 list_2),(11,sI (len list_2)),(12,sI v1)] [] st124
theorem Zan.p3_ok {i126 now_1 list_2 v1 x197 v204 st245 r c1_ J1} (h:Zan.p3 N c1_ i126 now_1 list_2 v1 x197 v204 st245=some r) (hE:En Tryz.f108 g0 w0 (Zan.rs r) r.2 R) (hc1 : ∀s_123 v1 st124,c1_ (s_123,v1,st124)=some r→At g0 w0 (Zan.p1.S s_123 now_1 list_2 v1 st124) J1):At g0 w0 (Zan.p3.S i126 now_1 list_2 v1 x197 v204 st245) (XK Tryz.prog R [.c (csub Zan.B [1,0,1,0,0,1,1,1]),.h J1,.b 0,.c (csub Zan.B [1,1])]):=by
 unfold Zan.p3 at h
 exact an fol [.r []] [0,1,10,11,12] [] trivial (hc1 (some i126) (w64 (v1+1)) st245 h)
theorem Zan.p2_ok {i126 now_1 list_2 v1 x197 v204 x125 st205 r c1_ J1} (h:Zan.p2 N c1_ i126 now_1 list_2 v1 x197 v204 x125 st205=some r) (hE:En Tryz.f108 g0 w0 (Zan.rs r) r.2 R) (hc1 : ∀s_123 v1 st124,c1_ (s_123,v1,st124)=some r→At g0 w0 (Zan.p1.S s_123 now_1 list_2 v1 st124) J1):At g0 w0 (Zan.p2.S i126 now_1 list_2 v1 x197 v204 x125 st205) (XK Tryz.prog R [.c (csub Zan.B [1,0,1,0,0,1,1,0,0,1,1,1]),.b 1,.c (csub Zan.B [1,0,1,0,0,1,1,1]),.h J1,.b 0,.c (csub Zan.B [1,1])]):=by
 unfold Zan.p2 at h
 obtain ⟨x206,x207,x208,x209,x210,x211,x212,x213,x214,x215,x216,x217,x218,x219,x220,x221,x222,x223,x224,x225,x226,x227,x228,x229,x230,x231,x232,x233,x234,x235,x236,x237,x238,x239,x240,x241,c31,h1⟩:=Zbv h
 obtain ⟨c32,h2⟩:=ZaN h1
 obtain ⟨i242,rfl,h3⟩:=Zad h2
 obtain ⟨x243,c34,h4⟩:=ZbC h3
 obtain ⟨x244,c35,h5⟩:=Zad h4
 let o1:List PS:=[.d {ds:=[(4,{oc:=[L.int .i64 x206,L.int .i64 x207,L.int .i64 x208,L.int .i64 x209,L.bool x210,L.sl 2 x211,L.sl 33 x212,L.arr .u64 4 x213,L.arr .u64 4 x214,L.int .i64 x215,L.arr .u8 32 x216,L.arr .u8 32 x217,L.int .i64 x218,L.int .i64 x219,L.int .i64 x220,L.int .i64 x221,L.int .i64 x222,L.int .i64 x223,L.int .i64 x224,L.int .i64 x225,L.arr .u8 32 x226,L.sl 1 x227,L.arr .u64 4 x228,L.int .i64 x229,L.int .i64 x230,L.int .i64 x231,L.int .i64 x232,L.int .i64 x233,L.arr .u8 32 x234,L.sl 1 x235,L.arr .u64 4 x236,L.ptr (some i242),L.int .i64 x238,L.int .i64 x239,L.int .i64 x240,L.own true 68 x241]}),(7,{oe:=[L.int .i64 x206,L.int .i64 x207,L.int .i64 x208,L.int .i64 x209,L.bool x210,L.sl 2 x211,L.sl 33 x212,L.arr .u64 4 x213,L.arr .u64 4 x214,L.int .i64 x215,L.arr .u8 32 x216,L.arr .u8 32 x217,L.int .i64 x218,L.int .i64 x219,L.int .i64 x220,L.int .i64 x221,L.int .i64 x222,L.int .i64 x223,L.int .i64 x224,L.int .i64 x225,L.arr .u8 32 x226,L.sl 1 x227,L.arr .u64 4 x228,L.int .i64 x229,L.int .i64 x230,L.int .i64 x231,L.int .i64 x232,L.int .i64 x233,L.arr .u8 32 x234,L.sl 1 x235,L.arr .u64 4 x236,L.ptr (some i242),L.int .i64 x238,L.int .i64 x239,L.int .i64 x240,L.own true 68 x241]}),(10,{oc:=[L.int .i64 x206,L.int .i64 x207,L.int .i64 x208,L.int .i64 x209,L.bool x210,L.sl 2 x211,L.sl 33 x212,L.arr .u64 4 x213,L.arr .u64 4 x214,L.int .i64 x215,L.arr .u8 32 x216,L.arr .u8 32 x217,L.int .i64 x218,L.int .i64 x219,L.int .i64 x220,L.int .i64 x221,L.int .i64 x222,L.int .i64 x223,L.int .i64 x224,L.int .i64 x225,L.arr .u8 32 x226,L.sl 1 x227,L.arr .u64 4 x228,L.int .i64 x229,L.int .i64 x230,L.int .i64 x231,L.int .i64 x232,L.int .i64 x233,L.arr .u8 32 x234,L.sl 1 x235,L.arr .u64 4 x236,L.ptr (some i242),L.int .i64 x238,L.int .i64 x239,L.int .i64 x240,L.gone],mv:=[53]})],hv:=1216,Hs:=[64,192,1216]},.r [(1,{rs:=[oB x244],m:=10,cv:=[.one (L.bx 172 (Zbg.ls (Zbg.mk (Zag.mk x206 x207 x208 x209 x210 x211 x212 x213 x214 (Zaa.mk x215 x216 x217 x218 x219 x220)) (Zba.mk (Zax.mk (Zbb.mk x221 x222 x223 x224 x225) x226 x227) x228) (Zba.mk (Zax.mk (Zbb.mk x229 x230 x231 x232 x233) x234 x235) x236) x243 x238 x239 x240 (x241 ++ [x125.ls]))))]})]]
 have t1 {Q:Prop} (q:Q):=aO c31 c31 z0 (eN (List.length x241)) c31 z0 (eN (1)) (aN c32 (Zcf c31 [L.int .i64 x206,L.int .i64 x207,L.int .i64 x208,L.int .i64 x209,L.bool x210,L.sl 2 x211,L.sl 33 x212,L.arr .u64 4 x213,L.arr .u64 4 x214,L.int .i64 x215,L.arr .u8 32 x216,L.arr .u8 32 x217,L.int .i64 x218,L.int .i64 x219,L.int .i64 x220,L.int .i64 x221,L.int .i64 x222,L.int .i64 x223,L.int .i64 x224,L.int .i64 x225,L.arr .u8 32 x226,L.sl 1 x227,L.arr .u64 4 x228,L.int .i64 x229,L.int .i64 x230,L.int .i64 x231,L.int .i64 x232,L.int .i64 x233,L.arr .u8 32 x234,L.sl 1 x235,L.arr .u64 4 x236,L.ptr (some i242),L.int .i64 x238,L.int .i64 x239,L.int .i64 x240,L.gone]) z0 (eN (List.length (x241 ++ [x125.ls]))) (bO 172 (Zcf (Zcf c31 [L.int .i64 x206,L.int .i64 x207,L.int .i64 x208,L.int .i64 x209,L.bool x210,L.sl 2 x211,L.sl 33 x212,L.arr .u64 4 x213,L.arr .u64 4 x214,L.int .i64 x215,L.arr .u8 32 x216,L.arr .u8 32 x217,L.int .i64 x218,L.int .i64 x219,L.int .i64 x220,L.int .i64 x221,L.int .i64 x222,L.int .i64 x223,L.int .i64 x224,L.int .i64 x225,L.arr .u8 32 x226,L.sl 1 x227,L.arr .u64 4 x228,L.int .i64 x229,L.int .i64 x230,L.int .i64 x231,L.int .i64 x232,L.int .i64 x233,L.arr .u8 32 x234,L.sl 1 x235,L.arr .u64 4 x236,L.ptr (some i242),L.int .i64 x238,L.int .i64 x239,L.int .i64 x240,L.gone]) [L.int .i64 x206,L.int .i64 x207,L.int .i64 x208,L.int .i64 x209,L.bool x210,L.sl 2 x211,L.sl 33 x212,L.arr .u64 4 x213,L.arr .u64 4 x214,L.int .i64 x215,L.arr .u8 32 x216,L.arr .u8 32 x217,L.int .i64 x218,L.int .i64 x219,L.int .i64 x220,L.int .i64 x221,L.int .i64 x222,L.int .i64 x223,L.int .i64 x224,L.int .i64 x225,L.arr .u8 32 x226,L.sl 1 x227,L.arr .u64 4 x228,L.int .i64 x229,L.int .i64 x230,L.int .i64 x231,L.int .i64 x232,L.int .i64 x233,L.arr .u8 32 x234,L.sl 1 x235,L.arr .u64 4 x236,L.ptr (some i242),L.int .i64 x238,L.int .i64 x239,L.int .i64 x240,L.own true 68 (x241 ++ [x125.ls])]) ((bP (bP (bP (bP (bP (bS (bS (bP (bP (bP (bP (bP (bP (bP (bP (bP (bP (bP (bP (bP (bP (bS (bP (bP (bP (bP (bP (bP (bP (bS (bP (bC 6 c34 (Zay.bv x243) (bP (bP (bP (bW bN)))))))))))))))))))))))))))))))))))):BVs (List.set (List.set st205 i126 [L.int .i64 x206,L.int .i64 x207,L.int .i64 x208,L.int .i64 x209,L.bool x210,L.sl 2 x211,L.sl 33 x212,L.arr .u64 4 x213,L.arr .u64 4 x214,L.int .i64 x215,L.arr .u8 32 x216,L.arr .u8 32 x217,L.int .i64 x218,L.int .i64 x219,L.int .i64 x220,L.int .i64 x221,L.int .i64 x222,L.int .i64 x223,L.int .i64 x224,L.int .i64 x225,L.arr .u8 32 x226,L.sl 1 x227,L.arr .u64 4 x228,L.int .i64 x229,L.int .i64 x230,L.int .i64 x231,L.int .i64 x232,L.int .i64 x233,L.arr .u8 32 x234,L.sl 1 x235,L.arr .u64 4 x236,L.ptr (some i242),L.int .i64 x238,L.int .i64 x239,L.int .i64 x240,L.gone]) i126 [L.int .i64 x206,L.int .i64 x207,L.int .i64 x208,L.int .i64 x209,L.bool x210,L.sl 2 x211,L.sl 33 x212,L.arr .u64 4 x213,L.arr .u64 4 x214,L.int .i64 x215,L.arr .u8 32 x216,L.arr .u8 32 x217,L.int .i64 x218,L.int .i64 x219,L.int .i64 x220,L.int .i64 x221,L.int .i64 x222,L.int .i64 x223,L.int .i64 x224,L.int .i64 x225,L.arr .u8 32 x226,L.sl 1 x227,L.arr .u64 4 x228,L.int .i64 x229,L.int .i64 x230,L.int .i64 x231,L.int .i64 x232,L.int .i64 x233,L.arr .u8 32 x234,L.sl 1 x235,L.arr .u64 4 x236,L.ptr (some i242),L.int .i64 x238,L.int .i64 x239,L.int .i64 x240,L.own true 68 (x241 ++ [x125.ls])]) [L.int .i64 x206,L.int .i64 x207,L.int .i64 x208,L.int .i64 x209,L.bool x210,L.sl 2 x211,L.sl 33 x212,L.arr .u64 4 x213,L.arr .u64 4 x214,L.int .i64 x215,L.arr .u8 32 x216,L.arr .u8 32 x217,L.int .i64 x218,L.int .i64 x219,L.int .i64 x220,L.int .i64 x221,L.int .i64 x222,L.int .i64 x223,L.int .i64 x224,L.int .i64 x225,L.arr .u8 32 x226,L.sl 1 x227,L.arr .u64 4 x228,L.int .i64 x229,L.int .i64 x230,L.int .i64 x231,L.int .i64 x232,L.int .i64 x233,L.arr .u8 32 x234,L.sl 1 x235,L.arr .u64 4 x236,L.ptr (some i242),L.int .i64 x238,L.int .i64 x239,L.int .i64 x240,L.own true 68 (x241 ++ [x125.ls])] (Zbg.ls (Zbg.mk (Zag.mk x206 x207 x208 x209 x210 x211 x212 x213 x214 (Zaa.mk x215 x216 x217 x218 x219 x220)) (Zba.mk (Zax.mk (Zbb.mk x221 x222 x223 x224 x225) x226 x227) x228) (Zba.mk (Zax.mk (Zbb.mk x229 x230 x231 x232 x233) x234 x235) x236) x243 x238 x239 x240 (x241 ++ [x125.ls]))))) (Zbi.snd c35) q)
 refine iteB h5 (fun c36 h6=>?_) (fun c36 h7=>?_)
 ·exact aqd fol (o1 ++ [.c true,.r [(3,{oc:=[L.int .i64 x206,L.int .i64 x207,L.int .i64 x208,L.int .i64 x209,L.bool x210,L.sl 2 x211,L.sl 33 x212,L.arr .u64 4 x213,L.arr .u64 4 x214,L.int .i64 x215,L.arr .u8 32 x216,L.arr .u8 32 x217,L.int .i64 x218,L.int .i64 x219,L.int .i64 x220,L.int .i64 x221,L.int .i64 x222,L.int .i64 x223,L.int .i64 x224,L.int .i64 x225,L.arr .u8 32 x226,L.sl 1 x227,L.arr .u64 4 x228,L.int .i64 x229,L.int .i64 x230,L.int .i64 x231,L.int .i64 x232,L.int .i64 x233,L.arr .u8 32 x234,L.sl 1 x235,L.arr .u64 4 x236,L.ptr (some i242),L.int .i64 x238,L.int .i64 x239,L.int .i64 x240,L.own true 68 (x241 ++ [x125.ls])]})],.s 4]) [0,1,10,11,12,29,30,31,32,33,34,44] [] (t1 (aI c36 (Zcf (Zcf c31 [L.int .i64 x206,L.int .i64 x207,L.int .i64 x208,L.int .i64 x209,L.bool x210,L.sl 2 x211,L.sl 33 x212,L.arr .u64 4 x213,L.arr .u64 4 x214,L.int .i64 x215,L.arr .u8 32 x216,L.arr .u8 32 x217,L.int .i64 x218,L.int .i64 x219,L.int .i64 x220,L.int .i64 x221,L.int .i64 x222,L.int .i64 x223,L.int .i64 x224,L.int .i64 x225,L.arr .u8 32 x226,L.sl 1 x227,L.arr .u64 4 x228,L.int .i64 x229,L.int .i64 x230,L.int .i64 x231,L.int .i64 x232,L.int .i64 x233,L.arr .u8 32 x234,L.sl 1 x235,L.arr .u64 4 x236,L.ptr (some i242),L.int .i64 x238,L.int .i64 x239,L.int .i64 x240,L.gone]) [L.int .i64 x206,L.int .i64 x207,L.int .i64 x208,L.int .i64 x209,L.bool x210,L.sl 2 x211,L.sl 33 x212,L.arr .u64 4 x213,L.arr .u64 4 x214,L.int .i64 x215,L.arr .u8 32 x216,L.arr .u8 32 x217,L.int .i64 x218,L.int .i64 x219,L.int .i64 x220,L.int .i64 x221,L.int .i64 x222,L.int .i64 x223,L.int .i64 x224,L.int .i64 x225,L.arr .u8 32 x226,L.sl 1 x227,L.arr .u64 4 x228,L.int .i64 x229,L.int .i64 x230,L.int .i64 x231,L.int .i64 x232,L.int .i64 x233,L.arr .u8 32 x234,L.sl 1 x235,L.arr .u64 4 x236,L.ptr (some i242),L.int .i64 x238,L.int .i64 x239,L.int .i64 x240,L.own true 68 (x241 ++ [x125.ls])]))) (Zan.p3_ok h6 hE hc1)
 ·exact aqd fol (o1 ++ [.c false,.s 4]) [0,1,10,11,12,29,30,31,32,33,34,44] [] (t1 c36) (Zan.p3_ok h7 hE hc1)
theorem Zan.p1_ok {s_123 now_1 list_2 v1 st124 r c1_ J1} (h:Zan.p1 N now_1 list_2 c1_ (s_123,v1,st124)=some r) (hE:En Tryz.f108 g0 w0 (Zan.rs r) r.2 R) (hc1 : ∀s_123 v1 st124,c1_ (s_123,v1,st124)=some r→At g0 w0 (Zan.p1.S s_123 now_1 list_2 v1 st124) J1):At g0 w0 (Zan.p1.S s_123 now_1 list_2 v1 st124) (XK Tryz.prog R (.c (csub Zan.B [1,0,1,0,0]) :: .h J1 :: [.b 0,.c (csub Zan.B [1,1])])):=by
 unfold Zan.p1 at h
 refine iteB h (fun c19 h8=>?_) (fun c19 h9=>?_)
 ·obtain ⟨c20,h10⟩:=ZaN h8
  obtain ⟨x125,c21,h11⟩:=Zco h10
  obtain ⟨i126,rfl,h12⟩:=Zad h11
  obtain ⟨x127,x128,x129,x130,x131,x132,x133,x134,x135,x136,x137,x138,x139,x140,x141,x142,x143,x144,x145,x146,x147,x148,x149,x150,x151,x152,x153,x154,x155,x156,x157,x158,x159,x160,x161,x162,c23,h13⟩:=Zbv h12
  obtain ⟨⟨x163,st164⟩,c24,h14⟩:=Zad h13
  let o2:List PS:=[.r [],.c true,.r [(1,{oe:=x125.ls})],.r [(6,{oc:=[L.int .i64 x127,L.int .i64 x128,L.int .i64 x129,L.int .i64 x130,L.bool x131,L.sl 2 x132,L.sl 33 x133,L.arr .u64 4 x134,L.arr .u64 4 x135,L.int .i64 x136,L.arr .u8 32 x137,L.arr .u8 32 x138,L.int .i64 x139,L.int .i64 x140,L.int .i64 x141,L.int .i64 x142,L.int .i64 x143,L.int .i64 x144,L.int .i64 x145,L.int .i64 x146,L.arr .u8 32 x147,L.sl 1 x148,L.arr .u64 4 x149,L.int .i64 x150,L.int .i64 x151,L.int .i64 x152,L.int .i64 x153,L.int .i64 x154,L.arr .u8 32 x155,L.sl 1 x156,L.arr .u64 4 x157,L.ptr x158,L.int .i64 x159,L.int .i64 x160,L.int .i64 x161,L.own true 68 x162]})]]
  have t2 {Q:Prop} (q:Q):=aN c19 c20 (oD c19) c21 c23 (ZbZ.snd c24) q
  refine iteB h14 (fun c25 h15=>?_) (fun c25 h16=>?_)
  ·obtain rfl:=Zac h15
   exact afd fol hE (o2 ++ [.d {ds:=[(3,{rs:=[oB x163],st:=st164}),(6,wF),(7,wF),(8,wF),(9,wF),(10,wF),(11,wF),(21,wF)],hv:=8,Hs:=[8]},.c true,.r []]) [] 0 [] (t2 (aO (not_false (Zbd c25)) (not_false (Zbd c25)) (not_false (Zbd c25)) (not_false (Zbd c25)) (not_false (Zbd c25)) (not_false (Zbd c25)) (not_false (Zbd c25)) (aI (not_false (Zbd c25)) eT)))
  ·obtain ⟨x165,x166,x167,x168,x169,x170,x171,x172,x173,x174,x175,x176,x177,x178,x179,x180,x181,x182,x183,x184,x185,x186,x187,x188,x189,x190,x191,x192,x193,x194,x195,x196,x197,x198,x199,x200,c26,h17⟩:=Zbv h16
   have t3 {Q:Prop} (q:Q):=t2 (aO (not_true (ZaZ c25)) (not_true (ZaZ c25)) (not_true (ZaZ c25)) (not_true (ZaZ c25)) c26 (not_true (ZaZ c25)) (not_true (ZaZ c25)) q)
   refine iteB h17 (fun c27 h18=>?_) (fun c27 h19=>?_)
   ·obtain ⟨x201,c28,h20⟩:=Zad h18
    obtain ⟨⟨x202,st203⟩,c29,h21⟩:=Zad h20
    let o3:List PS:=o2 ++ [.d {ds:=[(3,{rs:=[oB x163],st:=st164}),(9,{oc:=[L.int .i64 x165,L.int .i64 x166,L.int .i64 x167,L.int .i64 x168,L.bool x169,L.sl 2 x170,L.sl 33 x171,L.arr .u64 4 x172,L.arr .u64 4 x173,L.int .i64 x174,L.arr .u8 32 x175,L.arr .u8 32 x176,L.int .i64 x177,L.int .i64 x178,L.int .i64 x179,L.int .i64 x180,L.int .i64 x181,L.int .i64 x182,L.int .i64 x183,L.int .i64 x184,L.arr .u8 32 x185,L.sl 1 x186,L.arr .u64 4 x187,L.int .i64 x188,L.int .i64 x189,L.int .i64 x190,L.int .i64 x191,L.int .i64 x192,L.arr .u8 32 x193,L.sl 1 x194,L.arr .u64 4 x195,L.ptr x196,L.int .i64 x197,L.int .i64 x198,L.int .i64 x199,L.own true 68 x200]}),(15,{oc:=[L.int .i64 x165,L.int .i64 x166,L.int .i64 x167,L.int .i64 x168,L.bool x169,L.sl 2 x170,L.sl 33 x171,L.arr .u64 4 x172,L.arr .u64 4 x173,L.int .i64 x174,L.arr .u8 32 x175,L.arr .u8 32 x176,L.int .i64 x177,L.int .i64 x178,L.int .i64 x179,L.int .i64 x180,L.int .i64 x181,L.int .i64 x182,L.int .i64 x183,L.int .i64 x184,L.arr .u8 32 x185,L.sl 1 x186,L.arr .u64 4 x187,L.int .i64 x188,L.int .i64 x189,L.int .i64 x190,L.int .i64 x191,L.int .i64 x192,L.arr .u8 32 x193,L.sl 1 x194,L.arr .u64 4 x195,L.ptr x196,L.int .i64 x197,L.int .i64 x198,L.int .i64 x199,L.own true 68 x200]}),(18,q1 [.agg [L.arr .u8 32 x201]]),(19,{rs:=[oB x202],st:=st203}),(22,yF)],hv:=524296,Hs:=[8,524296]}]
    have t4 {Q:Prop} (q:Q):=t3 (aO c27 c27 c27 c27 c26 c27 c27 (aO c27 (ZcS.snd c28) c27 (Zck.snd c29) c27 (not_true (ZaZ c25)) c27 (aI (not_true (ZaZ c25)) q)))
    refine iteB h21 (fun c30 h22=>?_) (fun c30 h23=>?_)
    ·obtain rfl:=Zac h22
     exact afd fol hE (o3 ++ [.c true,.r []]) [] 0 [] (t4 c30)
    ·exact aqd fol (o3 ++ [.c false,.s 6]) [0,1,8,10,11,12,29,30,31,32,33,34,44] [8] (t4 c30) (Zan.p2_ok h23 hE hc1)
   ·exact aqd fol (o2 ++ [.d {ds:=[(3,{rs:=[oB x163],st:=st164}),(9,{oc:=[L.int .i64 x165,L.int .i64 x166,L.int .i64 x167,L.int .i64 x168,L.bool x169,L.sl 2 x170,L.sl 33 x171,L.arr .u64 4 x172,L.arr .u64 4 x173,L.int .i64 x174,L.arr .u8 32 x175,L.arr .u8 32 x176,L.int .i64 x177,L.int .i64 x178,L.int .i64 x179,L.int .i64 x180,L.int .i64 x181,L.int .i64 x182,L.int .i64 x183,L.int .i64 x184,L.arr .u8 32 x185,L.sl 1 x186,L.arr .u64 4 x187,L.int .i64 x188,L.int .i64 x189,L.int .i64 x190,L.int .i64 x191,L.int .i64 x192,L.arr .u8 32 x193,L.sl 1 x194,L.arr .u64 4 x195,L.ptr x196,L.int .i64 x197,L.int .i64 x198,L.int .i64 x199,L.own true 68 x200]}),(12,wF),(13,wF),(14,wF),(15,wF),(16,wF),(17,wF),(18,wF),(19,wF),(20,wF),(21,yF),(22,yF)],hv:=8,Hs:=[8]},.c false,.s 6]) [0,1,8,10,11,12,29,30,31,32,33,34,44] [8] (t3 (aO c27 c27 c27 c27 c27 c27 c27 (aM c27 c27 (not_true (ZaZ c25)) c27 (not_true (ZaZ c25)) eF))) (Zan.p2_ok h19 hE hc1)
 ·obtain rfl:=Zac h9
  exact af fol hE [.r [],.c false,.r []] [] 0 [] c19
theorem Zan.snd {s_0:Option Nat} {now_1:Int} {list_2:LL} {st:LL} {r:Int×LL} (h:Zan N s_0 now_1 list_2 st=some r):Snd Tryz.prog 108 [.one (L.ptr s_0),oI now_1,.one (L.sl 68 list_2)] st (Zan.rs r) r.2:=
 sO Zan.B Tryz.func108 fun g0 w0 R hE=>by
  unfold Zan at h
  exact aq fol [.r [],.r []] [0,1,10,11,12] [] trivial (At.loop N (At.loopN (fun y:(Option Nat)×Int×LL=>Zan.p1.S y.1 now_1 list_2 y.2.1 y.2.2) (fun c J hc y h=>Zan.p1_ok (s_123:=y.1) (v1:=y.2.1) (st124:=y.2.2) h hE (fun s_123 v1 st124=>hc (s_123,v1,st124))) N (s_0,0,st) h))
noncomputable def ZbA.B:Code:=Tryz.f109.body.getD .skip
noncomputable def ZbA.rs (r:LL×Int×LL):List CV:=[.row true 68 r.1,oI r.2.1]
noncomputable def ZbA (N:Nat) (s_0:Option Nat) (e_1:Int) (st:LL):Option (LL×Int×LL):=
 optE s_0 fun i1=>
 getE (st[i1]?) Zby fun x2 x3 x4 x5 x6 x7 x8 x9 x10 x11 x12 x13 x14 x15 x16 x17 x18 x19 x20 x21 x22 x23 x24 x25 x26 x27 x28 x29 x30 x31 x32 x33 x34 x35 x36 x37=>
 some ([],e_1,List.set (List.set (List.set st i1 [L.int .i64 x2,L.int .i64 x3,L.int .i64 x4,L.int .i64 x5,L.bool x6,L.sl 2 x7,L.sl 33 x8,L.arr .u64 4 x9,L.arr .u64 4 x10,L.int .i64 x11,L.arr .u8 32 x12,L.arr .u8 32 x13,L.int .i64 x14,L.int .i64 x15,L.int .i64 x16,L.int .i64 x17,L.int .i64 x18,L.int .i64 x19,L.int .i64 x20,L.int .i64 x21,L.arr .u8 32 x22,L.sl 1 x23,L.arr .u64 4 x24,L.int .i64 x25,L.int .i64 x26,L.int .i64 x27,L.int .i64 x28,L.int .i64 x29,L.arr .u8 32 x30,L.sl 1 x31,L.arr .u64 4 x32,L.ptr x33,L.int .i64 x34,L.int .i64 x35,L.int .i64 x36,L.own true 68 (List.replicate (List.length x37) (Zaa.ls (Zaa.mk 0 (List.replicate 32 0) (List.replicate 32 0) 0 0 0)))]) i1 [L.int .i64 x2,L.int .i64 x3,L.int .i64 x4,L.int .i64 x5,L.bool x6,L.sl 2 x7,L.sl 33 x8,L.arr .u64 4 x9,L.arr .u64 4 x10,L.int .i64 x11,L.arr .u8 32 x12,L.arr .u8 32 x13,L.int .i64 x14,L.int .i64 x15,L.int .i64 x16,L.int .i64 x17,L.int .i64 x18,L.int .i64 x19,L.int .i64 x20,L.int .i64 x21,L.arr .u8 32 x22,L.sl 1 x23,L.arr .u64 4 x24,L.int .i64 x25,L.int .i64 x26,L.int .i64 x27,L.int .i64 x28,L.int .i64 x29,L.arr .u8 32 x30,L.sl 1 x31,L.arr .u64 4 x32,L.ptr x33,L.int .i64 0,L.int .i64 x35,L.int .i64 x36,L.own true 68 (List.replicate (List.length x37) (Zaa.ls (Zaa.mk 0 (List.replicate 32 0) (List.replicate 32 0) 0 0 0)))]) i1 [L.int .i64 x2,L.int .i64 x3,L.int .i64 x4,L.int .i64 x5,L.bool x6,L.sl 2 x7,L.sl 33 x8,L.arr .u64 4 x9,L.arr .u64 4 x10,L.int .i64 x11,L.arr .u8 32 x12,L.arr .u8 32 x13,L.int .i64 x14,L.int .i64 x15,L.int .i64 x16,L.int .i64 x17,L.int .i64 x18,L.int .i64 x19,L.int .i64 x20,L.int .i64 x21,L.arr .u8 32 x22,L.sl 1 x23,L.arr .u64 4 x24,L.int .i64 x25,L.int .i64 x26,L.int .i64 x27,L.int .i64 x28,L.int .i64 x29,L.arr .u8 32 x30,L.sl 1 x31,L.arr .u64 4 x32,L.ptr x33,L.int .i64 0,L.int .i64 x35,L.int .i64 x36,L.own true 68 []])
theorem ZbA.snd {s_0:Option Nat} {e_1:Int} {st:LL} {r:LL×Int×LL} (h:ZbA N s_0 e_1 st=some r):Snd Tryz.prog 109 [.one (L.ptr s_0),oI e_1] st (ZbA.rs r) r.2.2:=
 sO ZbA.B Tryz.func109 fun g0 w0 R hE=>by
  unfold ZbA at h
  obtain ⟨i1,rfl,h1⟩:=Zad h
  obtain ⟨x2,x3,x4,x5,x6,x7,x8,x9,x10,x11,x12,x13,x14,x15,x16,x17,x18,x19,x20,x21,x22,x23,x24,x25,x26,x27,x28,x29,x30,x31,x32,x33,x34,x35,x36,x37,c2,h2⟩:=Zbv h1
  obtain rfl:=Zac h2
  exact af fol hE [.r [(0,{m:=2})],.r [(3,{oc:=[L.int .i64 x2,L.int .i64 x3,L.int .i64 x4,L.int .i64 x5,L.bool x6,L.sl 2 x7,L.sl 33 x8,L.arr .u64 4 x9,L.arr .u64 4 x10,L.int .i64 x11,L.arr .u8 32 x12,L.arr .u8 32 x13,L.int .i64 x14,L.int .i64 x15,L.int .i64 x16,L.int .i64 x17,L.int .i64 x18,L.int .i64 x19,L.int .i64 x20,L.int .i64 x21,L.arr .u8 32 x22,L.sl 1 x23,L.arr .u64 4 x24,L.int .i64 x25,L.int .i64 x26,L.int .i64 x27,L.int .i64 x28,L.int .i64 x29,L.arr .u8 32 x30,L.sl 1 x31,L.arr .u64 4 x32,L.ptr x33,L.int .i64 x34,L.int .i64 x35,L.int .i64 x36,L.own true 68 x37]}),(4,{oc:=[L.int .i64 x2,L.int .i64 x3,L.int .i64 x4,L.int .i64 x5,L.bool x6,L.sl 2 x7,L.sl 33 x8,L.arr .u64 4 x9,L.arr .u64 4 x10,L.int .i64 x11,L.arr .u8 32 x12,L.arr .u8 32 x13,L.int .i64 x14,L.int .i64 x15,L.int .i64 x16,L.int .i64 x17,L.int .i64 x18,L.int .i64 x19,L.int .i64 x20,L.int .i64 x21,L.arr .u8 32 x22,L.sl 1 x23,L.arr .u64 4 x24,L.int .i64 x25,L.int .i64 x26,L.int .i64 x27,L.int .i64 x28,L.int .i64 x29,L.arr .u8 32 x30,L.sl 1 x31,L.arr .u64 4 x32,L.ptr x33,L.int .i64 x34,L.int .i64 x35,L.int .i64 x36,L.own true 68 x37],oe:=[L.int .i64 0,L.arr .u8 32 (List.replicate 32 0),L.arr .u8 32 (List.replicate 32 0),L.int .i64 0,L.int .i64 0,L.int .i64 0],m:=11})],.r [(4,{oc:=[L.int .i64 x2,L.int .i64 x3,L.int .i64 x4,L.int .i64 x5,L.bool x6,L.sl 2 x7,L.sl 33 x8,L.arr .u64 4 x9,L.arr .u64 4 x10,L.int .i64 x11,L.arr .u8 32 x12,L.arr .u8 32 x13,L.int .i64 x14,L.int .i64 x15,L.int .i64 x16,L.int .i64 x17,L.int .i64 x18,L.int .i64 x19,L.int .i64 x20,L.int .i64 x21,L.arr .u8 32 x22,L.sl 1 x23,L.arr .u64 4 x24,L.int .i64 x25,L.int .i64 x26,L.int .i64 x27,L.int .i64 x28,L.int .i64 x29,L.arr .u8 32 x30,L.sl 1 x31,L.arr .u64 4 x32,L.ptr x33,L.int .i64 x34,L.int .i64 x35,L.int .i64 x36,L.own true 68 (List.replicate (List.length x37) (Zaa.ls (Zaa.mk 0 (List.replicate 32 0) (List.replicate 32 0) 0 0 0)))]}),(7,{oc:=[L.int .i64 x2,L.int .i64 x3,L.int .i64 x4,L.int .i64 x5,L.bool x6,L.sl 2 x7,L.sl 33 x8,L.arr .u64 4 x9,L.arr .u64 4 x10,L.int .i64 x11,L.arr .u8 32 x12,L.arr .u8 32 x13,L.int .i64 x14,L.int .i64 x15,L.int .i64 x16,L.int .i64 x17,L.int .i64 x18,L.int .i64 x19,L.int .i64 x20,L.int .i64 x21,L.arr .u8 32 x22,L.sl 1 x23,L.arr .u64 4 x24,L.int .i64 x25,L.int .i64 x26,L.int .i64 x27,L.int .i64 x28,L.int .i64 x29,L.arr .u8 32 x30,L.sl 1 x31,L.arr .u64 4 x32,L.ptr x33,L.int .i64 0,L.int .i64 x35,L.int .i64 x36,L.own true 68 (List.replicate (List.length x37) (Zaa.ls (Zaa.mk 0 (List.replicate 32 0) (List.replicate 32 0) 0 0 0)))],m:=12})],.r [(1,{m:=2})]] [] 0 [0] (aM c2 z0 (@rfl _ (List.length x37):(List.length x37)=(List.length x37)) c2 (Zcf c2 [L.int .i64 x2,L.int .i64 x3,L.int .i64 x4,L.int .i64 x5,L.bool x6,L.sl 2 x7,L.sl 33 x8,L.arr .u64 4 x9,L.arr .u64 4 x10,L.int .i64 x11,L.arr .u8 32 x12,L.arr .u8 32 x13,L.int .i64 x14,L.int .i64 x15,L.int .i64 x16,L.int .i64 x17,L.int .i64 x18,L.int .i64 x19,L.int .i64 x20,L.int .i64 x21,L.arr .u8 32 x22,L.sl 1 x23,L.arr .u64 4 x24,L.int .i64 x25,L.int .i64 x26,L.int .i64 x27,L.int .i64 x28,L.int .i64 x29,L.arr .u8 32 x30,L.sl 1 x31,L.arr .u64 4 x32,L.ptr x33,L.int .i64 x34,L.int .i64 x35,L.int .i64 x36,L.own true 68 (List.replicate (List.length x37) (Zaa.ls (Zaa.mk 0 (List.replicate 32 0) (List.replicate 32 0) 0 0 0)))]) (Zcf (Zcf c2 [L.int .i64 x2,L.int .i64 x3,L.int .i64 x4,L.int .i64 x5,L.bool x6,L.sl 2 x7,L.sl 33 x8,L.arr .u64 4 x9,L.arr .u64 4 x10,L.int .i64 x11,L.arr .u8 32 x12,L.arr .u8 32 x13,L.int .i64 x14,L.int .i64 x15,L.int .i64 x16,L.int .i64 x17,L.int .i64 x18,L.int .i64 x19,L.int .i64 x20,L.int .i64 x21,L.arr .u8 32 x22,L.sl 1 x23,L.arr .u64 4 x24,L.int .i64 x25,L.int .i64 x26,L.int .i64 x27,L.int .i64 x28,L.int .i64 x29,L.arr .u8 32 x30,L.sl 1 x31,L.arr .u64 4 x32,L.ptr x33,L.int .i64 x34,L.int .i64 x35,L.int .i64 x36,L.own true 68 (List.replicate (List.length x37) (Zaa.ls (Zaa.mk 0 (List.replicate 32 0) (List.replicate 32 0) 0 0 0)))]) [L.int .i64 x2,L.int .i64 x3,L.int .i64 x4,L.int .i64 x5,L.bool x6,L.sl 2 x7,L.sl 33 x8,L.arr .u64 4 x9,L.arr .u64 4 x10,L.int .i64 x11,L.arr .u8 32 x12,L.arr .u8 32 x13,L.int .i64 x14,L.int .i64 x15,L.int .i64 x16,L.int .i64 x17,L.int .i64 x18,L.int .i64 x19,L.int .i64 x20,L.int .i64 x21,L.arr .u8 32 x22,L.sl 1 x23,L.arr .u64 4 x24,L.int .i64 x25,L.int .i64 x26,L.int .i64 x27,L.int .i64 x28,L.int .i64 x29,L.arr .u8 32 x30,L.sl 1 x31,L.arr .u64 4 x32,L.ptr x33,L.int .i64 0,L.int .i64 x35,L.int .i64 x36,L.own true 68 (List.replicate (List.length x37) (Zaa.ls (Zaa.mk 0 (List.replicate 32 0) (List.replicate 32 0) 0 0 0)))]))
end Go.Dn.F
