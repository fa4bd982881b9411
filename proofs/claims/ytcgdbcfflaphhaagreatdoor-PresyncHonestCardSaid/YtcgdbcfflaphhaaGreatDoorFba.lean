/- Contracts of functions of the program, as shallow functions, and their proofs. -/
import Derived.Test.YtcgdbcfflaphhaaGreatDoorFa
import Derived.Test.YtcgdbcfflaphhaaGreatDoorFaP
set_option linter.all false
set_option maxRecDepth 100000
namespace Go.Dn.F
open Go.Proofs
variable {N:Nat} {g0:G} {w0:World} {R:Exit→Act→World→Prop}
structure Zbi where
  Salt:Int
  Period:Int
  Offset:Int
noncomputable def Zbi.ls (x:Zbi):List L:=[L.int .i64 x.Salt,L.int .i64 x.Period,L.int .i64 x.Offset]
theorem Zbi.bv {st:LL} (x:Zbi):BVs st x.ls x.ls:=(bP (bP (bP bN)))
structure ZaC where
  P:Zai
  Base:LL
  Plan:Zbi
  Size:Int
  Now:Int
noncomputable def ZaC.ls (x:ZaC):List L:=[L.int .i64 x.P.Limit,L.int .i64 x.P.Interval,L.int .i64 x.P.Spacing,L.int .i64 x.P.Future,L.bool x.P.Easy,L.sl 2 x.P.Gates,L.sl 33 x.P.Checks,L.arr .u64 4 x.P.MinWork,L.arr .u64 4 x.P.Margin,L.int .i64 x.P.Genesis.Version,L.arr .u8 32 x.P.Genesis.Prev,L.arr .u8 32 x.P.Genesis.Root,L.int .i64 x.P.Genesis.Time,L.int .i64 x.P.Genesis.Bits,L.int .i64 x.P.Genesis.Nonce,L.sl 68 x.Base,L.int .i64 x.Plan.Salt,L.int .i64 x.Plan.Period,L.int .i64 x.Plan.Offset,L.int .i64 x.Size,L.int .i64 x.Now]
structure Zdn where
  Spot:Zat
  Work:List Int
noncomputable def Zdn.ls (x:Zdn):List L:=[L.int .i64 x.Spot.Point.Height,L.int .i64 x.Spot.Point.Bits,L.int .i64 x.Spot.Point.Time,L.int .i64 x.Spot.Point.First,L.int .i64 x.Spot.Point.Hard,L.arr .u8 32 x.Spot.Prev,L.sl 1 x.Spot.Times,L.arr .u64 4 x.Work]
structure Zax where
  Plan:Zbi
  words:LL
  given:Int
  met:Int
noncomputable def Zax.lo (x:Zax):List L:=[L.int .i64 x.Plan.Salt,L.int .i64 x.Plan.Period,L.int .i64 x.Plan.Offset,L.own true 1 x.words,L.int .i64 x.given,L.int .i64 x.met]
noncomputable def Zbf {α:Type} (l:List L) (k:Zax→Option α):Option α:=match l with
  | [L.int .i64 x0,L.int .i64 x1,L.int .i64 x2,L.own true 1 x3,L.int .i64 x4,L.int .i64 x5]=>k ⟨⟨x0,x1,x2⟩,x3,x4,x5⟩
  | _=>none
theorem Zbq {α:Type} {o:Option (List L)} {k:Zax→Option α} {r:α} (h:getE o Zbf k=some r) : ∃x:Zax,o=some x.lo∧k x=some r:=by
  obtain ⟨l,e,k1⟩:=Zae h;subst e;unfold Zbf at k1;split at k1
  · exact ⟨_,rfl,k1⟩
  · cases k1
@[simp] theorem Zbz {α:Type} (x:Zax) (k:Zax→Option α):Zbf x.lo k=k x:=rfl
structure Zcb where
  Height:Int
  Version:Int
noncomputable def Zcb.ls (x:Zcb):List L:=[L.int .i64 x.Height,L.int .i64 x.Version]
noncomputable def ZdA {α:Type} (l:List L) (k:Zcb→Option α):Option α:=match l with
  | [L.int .i64 x0,L.int .i64 x1]=>k ⟨x0,x1⟩
  | _=>none
theorem ZdE {α:Type} {o:Option (List L)} {k:Zcb→Option α} {r:α} (h:getE o ZdA k=some r) : ∃x:Zcb,o=some x.ls∧k x=some r:=by
  obtain ⟨l,e,k1⟩:=Zae h;subst e;unfold ZdA at k1;split at k1
  · exact ⟨_,rfl,k1⟩
  · cases k1
@[simp] theorem ZdQ {α:Type} (x:Zcb) (k:Zcb→Option α):ZdA x.ls k=k x:=rfl
theorem Zcb.bv {st:LL} (x:Zcb):BVs st x.ls x.ls:=(bP (bP bN))
structure ZbJ where
  Height:Int
  Id:List Int
noncomputable def ZbJ.ls (x:ZbJ):List L:=[L.int .i64 x.Height,L.arr .u8 32 x.Id]
noncomputable def Zdp {α:Type} (l:List L) (k:ZbJ→Option α):Option α:=match l with
  | [L.int .i64 x0,L.arr .u8 32 x1]=>k ⟨x0,x1⟩
  | _=>none
theorem Zdy {α:Type} {o:Option (List L)} {k:ZbJ→Option α} {r:α} (h:getE o Zdp k=some r) : ∃x:ZbJ,o=some x.ls∧k x=some r:=by
  obtain ⟨l,e,k1⟩:=Zae h;subst e;unfold Zdp at k1;split at k1
  · exact ⟨_,rfl,k1⟩
  · cases k1
@[simp] theorem ZdF {α:Type} (x:ZbJ) (k:ZbJ→Option α):Zdp x.ls k=k x:=rfl
theorem ZbJ.bv {st:LL} (x:ZbJ):BVs st x.ls x.ls:=(bP (bP bN))
noncomputable def Zax.ls (x:Zax):List L:=[L.int .i64 x.Plan.Salt,L.int .i64 x.Plan.Period,L.int .i64 x.Plan.Offset,L.sl 1 x.words,L.int .i64 x.given,L.int .i64 x.met]
theorem Zax.bv {st:LL} (x:Zax):BVs st x.lo x.ls:=(bP (bP (bP (bW (bP (bP bN))))))
structure ZaJ where
  Spot:Zat
  work:List Int
noncomputable def ZaJ.ls (x:ZaJ):List L:=[L.int .i64 x.Spot.Point.Height,L.int .i64 x.Spot.Point.Bits,L.int .i64 x.Spot.Point.Time,L.int .i64 x.Spot.Point.First,L.int .i64 x.Spot.Point.Hard,L.arr .u8 32 x.Spot.Prev,L.sl 1 x.Spot.Times,L.arr .u64 4 x.work]
structure ZaM where
  rules:Zai
  start:ZaJ
  point:ZaJ
  book:Zax
  phase:Int
  most:Int
  size:Int
  buffer:LL
noncomputable def ZaM.ls (x:ZaM):List L:=[L.int .i64 x.rules.Limit,L.int .i64 x.rules.Interval,L.int .i64 x.rules.Spacing,L.int .i64 x.rules.Future,L.bool x.rules.Easy,L.sl 2 x.rules.Gates,L.sl 33 x.rules.Checks,L.arr .u64 4 x.rules.MinWork,L.arr .u64 4 x.rules.Margin,L.int .i64 x.rules.Genesis.Version,L.arr .u8 32 x.rules.Genesis.Prev,L.arr .u8 32 x.rules.Genesis.Root,L.int .i64 x.rules.Genesis.Time,L.int .i64 x.rules.Genesis.Bits,L.int .i64 x.rules.Genesis.Nonce,L.int .i64 x.start.Spot.Point.Height,L.int .i64 x.start.Spot.Point.Bits,L.int .i64 x.start.Spot.Point.Time,L.int .i64 x.start.Spot.Point.First,L.int .i64 x.start.Spot.Point.Hard,L.arr .u8 32 x.start.Spot.Prev,L.sl 1 x.start.Spot.Times,L.arr .u64 4 x.start.work,L.int .i64 x.point.Spot.Point.Height,L.int .i64 x.point.Spot.Point.Bits,L.int .i64 x.point.Spot.Point.Time,L.int .i64 x.point.Spot.Point.First,L.int .i64 x.point.Spot.Point.Hard,L.arr .u8 32 x.point.Spot.Prev,L.sl 1 x.point.Spot.Times,L.arr .u64 4 x.point.work,L.bx 6 x.book.ls,L.int .i64 x.phase,L.int .i64 x.most,L.int .i64 x.size,L.sl 68 x.buffer]
structure Zbn where
  List_:LL
  Now:Int
  More:Bool
noncomputable def Zbn.ls (x:Zbn):List L:=[L.sl 68 x.List_,L.int .i64 x.Now,L.bool x.More]
noncomputable def ZcK {α:Type} (l:List L) (k:Zbn→Option α):Option α:=match l with
  | [L.sl 68 x0,L.int .i64 x1,L.bool x2]=>k ⟨x0,x1,x2⟩
  | _=>none
theorem Zex {α:Type} {o:Option (List L)} {k:Zbn→Option α} {r:α} (h:getE o ZcK k=some r) : ∃x:Zbn,o=some x.ls∧k x=some r:=by
  obtain ⟨l,e,k1⟩:=Zae h;subst e;unfold ZcK at k1;split at k1
  · exact ⟨_,rfl,k1⟩
  · cases k1
@[simp] theorem ZeA {α:Type} (x:Zbn) (k:Zbn→Option α):ZcK x.ls k=k x:=rfl
structure ZbD where
  P:Zai
  Base:LL
  Seen:LL
  Twice:LL
  Told:Int
  Salt:Int
  Period:Int
  Offset:Int
  Size:Int
  Most:Int
  Phase:Int
noncomputable def ZbD.lo (x:ZbD):List L:=[L.int .i64 x.P.Limit,L.int .i64 x.P.Interval,L.int .i64 x.P.Spacing,L.int .i64 x.P.Future,L.bool x.P.Easy,L.sl 2 x.P.Gates,L.sl 33 x.P.Checks,L.arr .u64 4 x.P.MinWork,L.arr .u64 4 x.P.Margin,L.int .i64 x.P.Genesis.Version,L.arr .u8 32 x.P.Genesis.Prev,L.arr .u8 32 x.P.Genesis.Root,L.int .i64 x.P.Genesis.Time,L.int .i64 x.P.Genesis.Bits,L.int .i64 x.P.Genesis.Nonce,L.sl 68 x.Base,L.own true 68 x.Seen,L.own false 68 x.Twice,L.int .i64 x.Told,L.int .i64 x.Salt,L.int .i64 x.Period,L.int .i64 x.Offset,L.int .i64 x.Size,L.int .i64 x.Most,L.int .i64 x.Phase]
noncomputable def ZcB {α:Type} (l:List L) (k:ZbD→Option α):Option α:=match l with
  | [L.int .i64 x0,L.int .i64 x1,L.int .i64 x2,L.int .i64 x3,L.bool x4,L.sl 2 x5,L.sl 33 x6,L.arr .u64 4 x7,L.arr .u64 4 x8,L.int .i64 x9,L.arr .u8 32 x10,L.arr .u8 32 x11,L.int .i64 x12,L.int .i64 x13,L.int .i64 x14,L.sl 68 x15,L.own true 68 x16,L.own false 68 x17,L.int .i64 x18,L.int .i64 x19,L.int .i64 x20,L.int .i64 x21,L.int .i64 x22,L.int .i64 x23,L.int .i64 x24]=>k ⟨⟨x0,x1,x2,x3,x4,x5,x6,x7,x8,⟨x9,x10,x11,x12,x13,x14⟩⟩,x15,x16,x17,x18,x19,x20,x21,x22,x23,x24⟩
  | _=>none
theorem ZdD {α:Type} {o:Option (List L)} {k:ZbD→Option α} {r:α} (h:getE o ZcB k=some r) : ∃x:ZbD,o=some x.lo∧k x=some r:=by
  obtain ⟨l,e,k1⟩:=Zae h;subst e;unfold ZcB at k1;split at k1
  · exact ⟨_,rfl,k1⟩
  · cases k1
@[simp] theorem ZdM {α:Type} (x:ZbD) (k:ZbD→Option α):ZcB x.lo k=k x:=rfl
noncomputable def Zgv {α:Type} (l:List L) (k:(List Int)→Option α):Option α:=match l with
  | [L.arr .u64 4 x0]=>k x0
  | _=>none
theorem Zjk {α:Type} {o:Option (List L)} {k:(List Int)→Option α} {r:α} (h:getE o Zgv k=some r) : ∃x0,o=some [L.arr .u64 4 x0]∧k x0=some r:=by
  obtain ⟨l,e,k1⟩:=Zae h;subst e;unfold Zgv at k1;split at k1
  · exact ⟨_,rfl,k1⟩
  · cases k1
@[simp] theorem dec_u64x4_ls {α:Type} (x0:List Int) (k:(List Int)→Option α):Zgv [L.arr .u64 4 x0] k=k x0:=rfl
noncomputable def Zbp {α:Type} (l:List L) (k:Int→Int→Int→Int→Bool→LL→LL→(List Int)→(List Int)→Int→(List Int)→(List Int)→Int→Int→Int→Int→Int→Int→Int→Int→(List Int)→LL→(List Int)→Int→Int→Int→Int→Int→(List Int)→LL→(List Int)→(Option Nat)→Int→Int→Int→LL→Option α):Option α:=match l with
  | (L.int .i64 x0::L.int .i64 x1::L.int .i64 x2::L.int .i64 x3::L.bool x4::L.sl 2 x5::L.sl 33 x6::L.arr .u64 4 x7::L.arr .u64 4 x8::L.int .i64 x9::L.arr .u8 32 x10::L.arr .u8 32 x11::L.int .i64 x12::L.int .i64 x13::L.int .i64 x14::L.int .i64 x15::L.int .i64 x16::L.int .i64 x17::L.int .i64 x18::L.int .i64 x19::L.arr .u8 32 x20::L.sl 1 x21::L.arr .u64 4 x22::L.int .i64 x23::L.int .i64 x24::L.int .i64 x25::L.int .i64 x26::L.int .i64 x27::L.arr .u8 32 x28::L.sl 1 x29::L.arr .u64 4 x30::L.ptr x31::L.int .i64 x32::L.int .i64 x33::L.int .i64 x34::L.own true 68 x35 :: [])=>k x0 x1 x2 x3 x4 x5 x6 x7 x8 x9 x10 x11 x12 x13 x14 x15 x16 x17 x18 x19 x20 x21 x22 x23 x24 x25 x26 x27 x28 x29 x30 x31 x32 x33 x34 x35
  | _=>none
theorem Zbk {α:Type} {o:Option (List L)} {k:Int→Int→Int→Int→Bool→LL→LL→(List Int)→(List Int)→Int→(List Int)→(List Int)→Int→Int→Int→Int→Int→Int→Int→Int→(List Int)→LL→(List Int)→Int→Int→Int→Int→Int→(List Int)→LL→(List Int)→(Option Nat)→Int→Int→Int→LL→Option α} {r:α} (h:getE o Zbp k=some r) : ∃x0 x1 x2 x3 x4 x5 x6 x7 x8 x9 x10 x11 x12 x13 x14 x15 x16 x17 x18 x19 x20 x21 x22 x23 x24 x25 x26 x27 x28 x29 x30 x31 x32 x33 x34 x35,o=some (L.int .i64 x0::L.int .i64 x1::L.int .i64 x2::L.int .i64 x3::L.bool x4::L.sl 2 x5::L.sl 33 x6::L.arr .u64 4 x7::L.arr .u64 4 x8::L.int .i64 x9::L.arr .u8 32 x10::L.arr .u8 32 x11::L.int .i64 x12::L.int .i64 x13::L.int .i64 x14::L.int .i64 x15::L.int .i64 x16::L.int .i64 x17::L.int .i64 x18::L.int .i64 x19::L.arr .u8 32 x20::L.sl 1 x21::L.arr .u64 4 x22::L.int .i64 x23::L.int .i64 x24::L.int .i64 x25::L.int .i64 x26::L.int .i64 x27::L.arr .u8 32 x28::L.sl 1 x29::L.arr .u64 4 x30::L.ptr x31::L.int .i64 x32::L.int .i64 x33::L.int .i64 x34::L.own true 68 x35 :: [])∧k x0 x1 x2 x3 x4 x5 x6 x7 x8 x9 x10 x11 x12 x13 x14 x15 x16 x17 x18 x19 x20 x21 x22 x23 x24 x25 x26 x27 x28 x29 x30 x31 x32 x33 x34 x35=some r:=by
  obtain ⟨l,e,k1⟩:=Zae h;subst e;unfold Zbp at k1;split at k1
  · exact ⟨_,_,_,_,_,_,_,_,_,_,_,_,_,_,_,_,_,_,_,_,_,_,_,_,_,_,_,_,_,_,_,_,_,_,_,_,rfl,k1⟩
  · cases k1
@[simp] theorem ZkE {α:Type} (x0:Int) (x1:Int) (x2:Int) (x3:Int) (x4:Bool) (x5:LL) (x6:LL) (x7:List Int) (x8:List Int) (x9:Int) (x10:List Int) (x11:List Int) (x12:Int) (x13:Int) (x14:Int) (x15:Int) (x16:Int) (x17:Int) (x18:Int) (x19:Int) (x20:List Int) (x21:LL) (x22:List Int) (x23:Int) (x24:Int) (x25:Int) (x26:Int) (x27:Int) (x28:List Int) (x29:LL) (x30:List Int) (x31:Option Nat) (x32:Int) (x33:Int) (x34:Int) (x35:LL) (k:Int→Int→Int→Int→Bool→LL→LL→(List Int)→(List Int)→Int→(List Int)→(List Int)→Int→Int→Int→Int→Int→Int→Int→Int→(List Int)→LL→(List Int)→Int→Int→Int→Int→Int→(List Int)→LL→(List Int)→(Option Nat)→Int→Int→Int→LL→Option α):Zbp (L.int .i64 x0::L.int .i64 x1::L.int .i64 x2::L.int .i64 x3::L.bool x4::L.sl 2 x5::L.sl 33 x6::L.arr .u64 4 x7::L.arr .u64 4 x8::L.int .i64 x9::L.arr .u8 32 x10::L.arr .u8 32 x11::L.int .i64 x12::L.int .i64 x13::L.int .i64 x14::L.int .i64 x15::L.int .i64 x16::L.int .i64 x17::L.int .i64 x18::L.int .i64 x19::L.arr .u8 32 x20::L.sl 1 x21::L.arr .u64 4 x22::L.int .i64 x23::L.int .i64 x24::L.int .i64 x25::L.int .i64 x26::L.int .i64 x27::L.arr .u8 32 x28::L.sl 1 x29::L.arr .u64 4 x30::L.ptr x31::L.int .i64 x32::L.int .i64 x33::L.int .i64 x34::L.own true 68 x35 :: []) k=k x0 x1 x2 x3 x4 x5 x6 x7 x8 x9 x10 x11 x12 x13 x14 x15 x16 x17 x18 x19 x20 x21 x22 x23 x24 x25 x26 x27 x28 x29 x30 x31 x32 x33 x34 x35:=rfl
noncomputable def Zga {α:Type} (l:List L) (k:Int→Option α):Option α:=match l with
  | [L.int .u64 x0]=>k x0
  | _=>none
theorem ZfZ {α:Type} {o:Option (List L)} {k:Int→Option α} {r:α} (h:getE o Zga k=some r) : ∃x0,o=some [L.int .u64 x0]∧k x0=some r:=by
  obtain ⟨l,e,k1⟩:=Zae h;subst e;unfold Zga at k1;split at k1
  · exact ⟨_,rfl,k1⟩
  · cases k1
@[simp] theorem ZiC {α:Type} (x0:Int) (k:Int→Option α):Zga [L.int .u64 x0] k=k x0:=rfl
theorem slices_Sort_int.snd:SortC Tryz.prog 195:=slices_Sort_int.holds
theorem Zda.snd {x y z:Int} {r:Int×Int} (h:Zda N x y z=some r):ExtI Tryz.prog 205 [(.u64,x),(.u64,y),(.u64,z)] [(.u64,r.1),(.u64,r.2)]:=Zif Tryz.func205 (by kernel_rfl) (by kernel_rfl) (by kernel_rfl) (by kernel_rfl) h
theorem ZdX.snd {x y z:Int} {r:Int×Int} (h:ZdX N x y z=some r):ExtI Tryz.prog 223 [(.u64,x),(.u64,y),(.u64,z)] [(.u64,r.1),(.u64,r.2)]:=Zie Tryz.func223 (by kernel_rfl) (by kernel_rfl) (by kernel_rfl) (by kernel_rfl) h
noncomputable def Zcy.B:Code:=Tryz.f68.body.getD .skip
noncomputable def Zcy.rs (r:Bool):List CV:=[oB r]
noncomputable def Zcy (N:Nat) (p_0:Zbi):Option Bool:=
 if (decide (p_0.Period≥1))=true then
  if (decide (p_0.Period≤64))=true then
   if (decide (p_0.Offset≥0))=true then
    some (decide (p_0.Offset<p_0.Period))
   else
   some false
  else
  some false
 else
 some false
theorem Zcy.snd {p_0:Zbi} {r:Bool} (h:Zcy N p_0=some r):SndQ Tryz.prog 68 [.agg p_0.ls] (Zcy.rs r):=fun st=>
 sO Zcy.B Tryz.func68 fun g0 w0 R hE=>by
  unfold Zcy at h
  refine iteB h (fun c1 h1=>?_) (fun c1 h2=>?_)
  ·refine iteB h1 (fun c2 h3=>?_) (fun c2 h4=>?_)
   ·refine iteB h3 (fun c3 h5=>?_) (fun c3 h6=>?_)
    ·obtain rfl:=Zad h5
     exact af fol hE [.r [],.r []] [] 0 [] (aO c1 c1 c1 c1 c2 c2 c2 (aN c2 c3 c3 c3 c3 c3 c3))
    ·obtain rfl:=Zad h6
     exact af fol hE [.r [],.r [(14,wF),(15,wF),(16,wF),(17,wF),(18,wF),(19,yF)]] [] 0 [] (aO c1 c1 c1 c1 c2 c2 c2 (aN c2 c3 c3 c3 c3 c3 c3))
   ·obtain rfl:=Zad h4
    exact af fol hE [.r [],.r [(9,wF),(10,wF),(11,wF),(12,yF),(14,wF),(15,wF),(16,wF),(17,wF),(18,wF),(19,yF)]] [] 0 [] (aO c1 c1 c1 c1 c2 c2 c2 (aN c2 eF eF eF eF eF eF))
  ·obtain rfl:=Zad h2
   exact af fol hE [.r [],.r [(4,wF),(5,wF),(6,wF),(7,yF),(9,wF),(10,wF),(11,wF),(12,yF),(14,wF),(15,wF),(16,wF),(17,wF),(18,wF),(19,yF)]] [] 0 [] (aO c1 c1 c1 c1 eF eF eF (aN eF eF eF eF eF eF eF))
noncomputable def ZdH.B:Code:=Tryz.f161.body.getD .skip
noncomputable def ZdH.rs (r:(Option Nat)×Int×LL):List CV:=[.one (L.ptr r.1),oI r.2.1]
noncomputable def ZdH (N:Nat) (p_0:Zbi) (st:LL):Option ((Option Nat)×Int×LL):=
 optE (Zcy N p_0) fun x1=>
 if (!x1)=true then
  some (none,1,st)
 else
 some ((some (List.length st)),0,st ++ [Zax.lo (Zax.mk p_0 [] 0 0)])
theorem ZdH.snd {p_0:Zbi} {st:LL} {r:(Option Nat)×Int×LL} (h:ZdH N p_0 st=some r):Snd Tryz.prog 161 [.agg p_0.ls] st (ZdH.rs r) r.2.2:=
 sO ZdH.B Tryz.func161 fun g0 w0 R hE=>by
  unfold ZdH at h
  obtain ⟨x1,c1,h1⟩:=Zae h
  let o1:List PS:=[.r [],.r [(1,q1 [oB x1])]]
  refine iteB h1 (fun c2 h2=>?_) (fun c2 h3=>?_)
  ·obtain rfl:=Zad h2
   exact af fol hE (o1 ++ [.c true,.r []]) [] 0 [] (aI (Zcy.snd c1) c2)
  ·obtain rfl:=Zad h3
   exact af fol hE (o1 ++ [.c false,.r [(1,{ns:=[3]}),(2,{m:=1})]]) [] 0 [] (aI (Zcy.snd c1) c2)
noncomputable def ZcH.B:Code:=Tryz.f176.body.getD .skip
noncomputable def ZcH.rs (r:(List Int)):List CV:=[.agg [L.arr .u64 4 r]]
noncomputable def ZcH (N:Nat) (n_0:Int):Option (List Int):=
 some [n_0,0,0,0]
theorem ZcH.snd {n_0:Int} {r:(List Int)} (h:ZcH N n_0=some r):SndQ Tryz.prog 176 [.one (L.int .u64 n_0)] (ZcH.rs r):=fun st=>
 sO ZcH.B Tryz.func176 fun g0 w0 R hE=>by
  unfold ZcH at h
  obtain rfl:=Zad h
  exact af fol hE [.r [],.r [(1,{m:=3})]] [] 0 [] trivial
noncomputable def ZaZ.B:Code:=Tryz.f177.body.getD .skip
noncomputable def ZaZ.rs (r:(List Int)):List CV:=[.agg [L.arr .u64 4 r]]
noncomputable def ZaZ.p2 (N:Nat) (c1_:(Int×(List Int))→Option (List Int)) (n_1 v1:Int) (a_0_0 out_4:List Int):Option (List Int):=
 c1_ (w64 (v1+1),out_4)
noncomputable def ZaZ.p1 (N:Nat) (n_1:Int) (a_0_0:List Int) (c1_:(Int×(List Int))→Option (List Int)):(Int×(List Int))→Option (List Int):=fun (v1,out_3)=>
 if (decide (v1<(w64 (4-(w64 (Int.tdiv (if (0:Int)>n_1 then 0 else n_1) 64))))))=true then
  chk (0≤(w64 (v1+(w64 (Int.tdiv (if (0:Int)>n_1 then 0 else n_1) 64)))))<|
  chk ((w64 (v1+(w64 (Int.tdiv (if (0:Int)>n_1 then 0 else n_1) 64))))<4)<|
  chk (0≤(Int.tmod (if (0:Int)>n_1 then 0 else n_1) 64))<|
  chk (0≤v1)<|
  chk (v1<4)<|
  if (decide ((w64 ((w64 (v1+(w64 (Int.tdiv (if (0:Int)>n_1 then 0 else n_1) 64))))+1))<4))=true then
   chk (0≤(w64 ((w64 (v1+(w64 (Int.tdiv (if (0:Int)>n_1 then 0 else n_1) 64))))+1)))<|
   chk (0≤(w64 (64-(Int.tmod (if (0:Int)>n_1 then 0 else n_1) 64))))<|
   ZaZ.p2 N c1_ n_1 v1 a_0_0 (List.set (List.set out_3 (Int.toNat v1) (shrOf .u64 (List.getD a_0_0 (Int.toNat (w64 (v1+(w64 (Int.tdiv (if (0:Int)>n_1 then 0 else n_1) 64))))) 0) (Int.tmod (if (0:Int)>n_1 then 0 else n_1) 64))) (Int.toNat v1) (bitsOf .or .u64 (List.getD (List.set out_3 (Int.toNat v1) (shrOf .u64 (List.getD a_0_0 (Int.toNat (w64 (v1+(w64 (Int.tdiv (if (0:Int)>n_1 then 0 else n_1) 64))))) 0) (Int.tmod (if (0:Int)>n_1 then 0 else n_1) 64))) (Int.toNat v1) 0) (shlOf .u64 (List.getD a_0_0 (Int.toNat (w64 ((w64 (v1+(w64 (Int.tdiv (if (0:Int)>n_1 then 0 else n_1) 64))))+1))) 0) (w64 (64-(Int.tmod (if (0:Int)>n_1 then 0 else n_1) 64))))))
  else
  ZaZ.p2 N c1_ n_1 v1 a_0_0 (List.set out_3 (Int.toNat v1) (shrOf .u64 (List.getD a_0_0 (Int.toNat (w64 (v1+(w64 (Int.tdiv (if (0:Int)>n_1 then 0 else n_1) 64))))) 0) (Int.tmod (if (0:Int)>n_1 then 0 else n_1) 64)))
 else
 some out_3
noncomputable def ZaZ (N:Nat) (a_0_0:List Int) (n_1:Int):Option (List Int):=
 if (decide (n_1≥256))=true then
  some (List.replicate 4 0)
 else
 loopN (ZaZ.p1 N n_1 a_0_0) N (0,List.replicate 4 0)
noncomputable def ZaZ.p2.S (n_1 v1:Int) (a_0_0 out_4:List Int) (st:LL):S:=mkS 53 [(2,sA 2),(4,sA 4),(5,sA 5),(6,sI (w64 (Int.tdiv (if (0:Int)>n_1 then 0 else n_1) 64))),(7,sI (Int.tmod (if (0:Int)>n_1 then 0 else n_1) 64)),(19,sI (w64 (4-(w64 (Int.tdiv (if (0:Int)>n_1 then 0 else n_1) 64))))),(20,sI v1)] [(2,.cells [L.arr .u64 4 a_0_0]),(4,.cells [L.arr .u64 4 (List.replicate 4 0)]),(5,.cells [L.arr .u64 4 out_4])] st
noncomputable def ZaZ.p1.S (n_1 v1:Int) (a_0_0 out_3:List Int) (st:LL):S:=mkS 53 [(2,sA 2),(4,sA 4),(5,sA 5),(6,sI (w64 (Int.tdiv (if (0:Int)>n_1 then 0 else n_1) 64))),(7,sI (Int.tmod (if (0:Int)>n_1 then 0 else n_1) 64)),(19,sI (w64 (4-(w64 (Int.tdiv (if (0:Int)>n_1 then 0 else n_1) 64))))),(20,sI v1)] [(2,.cells [L.arr .u64 4 a_0_0]),(4,.cells [L.arr .u64 4 (List.replicate 4 0)]),(5,.cells [L.arr .u64 4 out_3])] st
theorem ZaZ.p2_ok {n_1 v1 a_0_0 out_4 st r c1_ J1} (h:ZaZ.p2 N c1_ n_1 v1 a_0_0 out_4=some r) (hE:En Tryz.f177 g0 w0 (ZaZ.rs r) st R) (hc1 : ∀v1 out_3,c1_ (v1,out_3)=some r→At g0 w0 (ZaZ.p1.S n_1 v1 a_0_0 out_3 st) J1):At g0 w0 (ZaZ.p2.S n_1 v1 a_0_0 out_4 st) (XK Tryz.prog R [.c (csub ZaZ.B [1,1,1,1,0,1,0,0,1,1,1]),.h J1,.b 0,.c (csub ZaZ.B [1,1,1,1,1])]):=by
 unfold ZaZ.p2 at h
 exact an fol [.r []] [2,4,5,6,7,19,20] [2,4,5] trivial (hc1 (w64 (v1+1)) out_4 h)
theorem ZaZ.p1_ok {n_1 v1 a_0_0 out_3 st r c1_ J1} (h:ZaZ.p1 N n_1 a_0_0 c1_ (v1,out_3)=some r) (hE:En Tryz.f177 g0 w0 (ZaZ.rs r) st R) (hc1 : ∀v1 out_3,c1_ (v1,out_3)=some r→At g0 w0 (ZaZ.p1.S n_1 v1 a_0_0 out_3 st) J1):At g0 w0 (ZaZ.p1.S n_1 v1 a_0_0 out_3 st) (XK Tryz.prog R (.c (csub ZaZ.B [1,1,1,1,0,1,0,0]) :: .h J1 :: [.b 0,.c (csub ZaZ.B [1,1,1,1,1])])):=by
 unfold ZaZ.p1 at h
 refine iteB h (fun c11 h1=>?_) (fun c11 h2=>?_)
 ·obtain ⟨c12,c13,c14,c15,c16,h3⟩:=ck5 h1
  let o1:List PS:=[.r [],.c true,.r [],.r [],.r []]
  refine iteB h3 (fun c17 h4=>?_) (fun c17 h5=>?_)
  ·obtain ⟨c18,c19,h6⟩:=ck2 h4
   exact aqd fol (o1 ++ [.c true,.d {ds:=[],hv:=16384,Hs:=[16384]},.s 4]) [2,4,5,6,7,19,20] [2,4,5] (aO c11 c12 c13 c14 c15 c16 c17 (aN c15 c16 c18 (oD c17) c19 c15 c16)) (ZaZ.p2_ok h6 hE hc1)
  ·exact aq fol (o1 ++ [.c false,.s 4]) [2,4,5,6,7,19,20] [2,4,5] (aN c11 c12 c13 c14 c15 c16 c17) (ZaZ.p2_ok h5 hE hc1)
 ·obtain rfl:=Zad h2
  exact af fol hE [.r [],.c false,.r []] [] 0 [] c11
theorem ZaZ.snd {a_0_0:List Int} {n_1:Int} {r:(List Int)} (h:ZaZ N a_0_0 n_1=some r):SndQ Tryz.prog 177 [.agg [L.arr .u64 4 a_0_0],oI n_1] (ZaZ.rs r):=fun st=>
 sO ZaZ.B Tryz.func177 fun g0 w0 R hE=>by
  unfold ZaZ at h
  refine iteB h (fun c1 h7=>?_) (fun c1 h8=>?_)
  ·obtain rfl:=Zad h7
   exact af fol hE [.r [],.r [],.c true,.r []] [] 0 [] c1
  ·exact aq fol [.r [],.r [],.c false,.r [],.r [],.r []] [2,4,5,6,7,19,20] [2,4,5] (aJ c1 (neI 64) (neI 64)) (At.loop N (At.loopN (fun y:Int×(List Int)=>ZaZ.p1.S n_1 y.1 a_0_0 y.2 st) (fun c J hc y h=>ZaZ.p1_ok (v1:=y.1) (out_3:=y.2) h hE (fun v1 out_3=>hc (v1,out_3))) N (0,List.replicate 4 0) h8))
noncomputable def Zby.B:Code:=Tryz.f178.body.getD .skip
noncomputable def Zby.rs (r:(List Int)):List CV:=[.agg [L.arr .u64 4 r]]
noncomputable def Zby.p2 (N:Nat) (c1_:(Int×(List Int))→Option (List Int)) (n_1 i_1:Int) (a_0_0 out_4:List Int):Option (List Int):=
 c1_ (w64 (i_1+1),out_4)
noncomputable def Zby.p1 (N:Nat) (n_1:Int) (a_0_0:List Int) (c1_:(Int×(List Int))→Option (List Int)):(Int×(List Int))→Option (List Int):=fun (i_1,out_3)=>
 if (decide (i_1<4))=true then
  chk (0≤(w64 (i_1-(w64 (Int.tdiv (if (0:Int)>n_1 then 0 else n_1) 64)))))<|
  chk ((w64 (i_1-(w64 (Int.tdiv (if (0:Int)>n_1 then 0 else n_1) 64))))<4)<|
  chk (0≤(Int.tmod (if (0:Int)>n_1 then 0 else n_1) 64))<|
  chk (0≤i_1)<|
  if (decide (i_1>(w64 (Int.tdiv (if (0:Int)>n_1 then 0 else n_1) 64))))=true then
   chk (0≤(w64 ((w64 (i_1-(w64 (Int.tdiv (if (0:Int)>n_1 then 0 else n_1) 64))))-1)))<|
   chk ((w64 ((w64 (i_1-(w64 (Int.tdiv (if (0:Int)>n_1 then 0 else n_1) 64))))-1))<4)<|
   chk (0≤(w64 (64-(Int.tmod (if (0:Int)>n_1 then 0 else n_1) 64))))<|
   Zby.p2 N c1_ n_1 i_1 a_0_0 (List.set (List.set out_3 (Int.toNat i_1) (shlOf .u64 (List.getD a_0_0 (Int.toNat (w64 (i_1-(w64 (Int.tdiv (if (0:Int)>n_1 then 0 else n_1) 64))))) 0) (Int.tmod (if (0:Int)>n_1 then 0 else n_1) 64))) (Int.toNat i_1) (bitsOf .or .u64 (List.getD (List.set out_3 (Int.toNat i_1) (shlOf .u64 (List.getD a_0_0 (Int.toNat (w64 (i_1-(w64 (Int.tdiv (if (0:Int)>n_1 then 0 else n_1) 64))))) 0) (Int.tmod (if (0:Int)>n_1 then 0 else n_1) 64))) (Int.toNat i_1) 0) (shrOf .u64 (List.getD a_0_0 (Int.toNat (w64 ((w64 (i_1-(w64 (Int.tdiv (if (0:Int)>n_1 then 0 else n_1) 64))))-1))) 0) (w64 (64-(Int.tmod (if (0:Int)>n_1 then 0 else n_1) 64))))))
  else
  Zby.p2 N c1_ n_1 i_1 a_0_0 (List.set out_3 (Int.toNat i_1) (shlOf .u64 (List.getD a_0_0 (Int.toNat (w64 (i_1-(w64 (Int.tdiv (if (0:Int)>n_1 then 0 else n_1) 64))))) 0) (Int.tmod (if (0:Int)>n_1 then 0 else n_1) 64)))
 else
 some out_3
noncomputable def Zby (N:Nat) (a_0_0:List Int) (n_1:Int):Option (List Int):=
 if (decide (n_1≥256))=true then
  some (List.replicate 4 0)
 else
 loopN (Zby.p1 N n_1 a_0_0) N (w64 (Int.tdiv (if (0:Int)>n_1 then 0 else n_1) 64),List.replicate 4 0)
noncomputable def Zby.p2.S (n_1 i_1:Int) (a_0_0 out_4:List Int) (st:LL):S:=mkS 50 [(2,sA 2),(4,sA 4),(5,sA 5),(6,sI (w64 (Int.tdiv (if (0:Int)>n_1 then 0 else n_1) 64))),(7,sI (Int.tmod (if (0:Int)>n_1 then 0 else n_1) 64)),(8,sI i_1)] [(2,.cells [L.arr .u64 4 a_0_0]),(4,.cells [L.arr .u64 4 (List.replicate 4 0)]),(5,.cells [L.arr .u64 4 out_4])] st
noncomputable def Zby.p1.S (n_1 i_1:Int) (a_0_0 out_3:List Int) (st:LL):S:=mkS 50 [(2,sA 2),(4,sA 4),(5,sA 5),(6,sI (w64 (Int.tdiv (if (0:Int)>n_1 then 0 else n_1) 64))),(7,sI (Int.tmod (if (0:Int)>n_1 then 0 else n_1) 64)),(8,sI i_1)] [(2,.cells [L.arr .u64 4 a_0_0]),(4,.cells [L.arr .u64 4 (List.replicate 4 0)]),(5,.cells [L.arr .u64 4 out_3])] st
theorem Zby.p2_ok {n_1 i_1 a_0_0 out_4 st r c1_ J1} (h:Zby.p2 N c1_ n_1 i_1 a_0_0 out_4=some r) (hE:En Tryz.f178 g0 w0 (Zby.rs r) st R) (hc1 : ∀i_1 out_3,c1_ (i_1,out_3)=some r→At g0 w0 (Zby.p1.S n_1 i_1 a_0_0 out_3 st) J1):At g0 w0 (Zby.p2.S n_1 i_1 a_0_0 out_4 st) (XK Tryz.prog R [.c (csub Zby.B [1,1,1,1,0,1,0,0,1,1]),.h J1,.b 0,.c (csub Zby.B [1,1,1,1,1])]):=by
 unfold Zby.p2 at h
 exact an fol [.r []] [2,4,5,6,7,8] [2,4,5] trivial (hc1 (w64 (i_1+1)) out_4 h)
theorem Zby.p1_ok {n_1 i_1 a_0_0 out_3 st r c1_ J1} (h:Zby.p1 N n_1 a_0_0 c1_ (i_1,out_3)=some r) (hE:En Tryz.f178 g0 w0 (Zby.rs r) st R) (hc1 : ∀i_1 out_3,c1_ (i_1,out_3)=some r→At g0 w0 (Zby.p1.S n_1 i_1 a_0_0 out_3 st) J1):At g0 w0 (Zby.p1.S n_1 i_1 a_0_0 out_3 st) (XK Tryz.prog R (.c (csub Zby.B [1,1,1,1,0,1,0,0]) :: .h J1 :: [.b 0,.c (csub Zby.B [1,1,1,1,1])])):=by
 unfold Zby.p1 at h
 refine iteB h (fun c11 h1=>?_) (fun c11 h2=>?_)
 ·obtain ⟨c12,c13,c14,c15,h3⟩:=ck4 h1
  refine iteB h3 (fun c16 h4=>?_) (fun c16 h5=>?_)
  ·obtain ⟨c17,c18,c19,h6⟩:=ck3 h4
   exact aqd fol [.r [],.c true,.r [],.r [],.c true,.d {ds:=[],hv:=16384,Hs:=[16384]},.s 4] [2,4,5,6,7,8] [2,4,5] (aO c11 c12 c13 c14 c15 (oD c11) c16 (aN c15 (oD c11) c17 c18 c19 c15 (oD c11))) (Zby.p2_ok h6 hE hc1)
  ·exact aq fol [.r [],.c true,.r [],.r [],.c false,.s 4] [2,4,5,6,7,8] [2,4,5] (aN c11 c12 c13 c14 c15 (oD c11) c16) (Zby.p2_ok h5 hE hc1)
 ·obtain rfl:=Zad h2
  exact af fol hE [.r [],.c false,.r []] [] 0 [] c11
theorem Zby.snd {a_0_0:List Int} {n_1:Int} {r:(List Int)} (h:Zby N a_0_0 n_1=some r):SndQ Tryz.prog 178 [.agg [L.arr .u64 4 a_0_0],oI n_1] (Zby.rs r):=fun st=>
 sO Zby.B Tryz.func178 fun g0 w0 R hE=>by
  unfold Zby at h
  refine iteB h (fun c1 h7=>?_) (fun c1 h8=>?_)
  ·obtain rfl:=Zad h7
   exact af fol hE [.r [],.r [],.c true,.r []] [] 0 [] c1
  ·exact aq fol [.r [],.r [],.c false,.r [],.r [],.r []] [2,4,5,6,7,8] [2,4,5] (aJ c1 (neI 64) (neI 64)) (At.loop N (At.loopN (fun y:Int×(List Int)=>Zby.p1.S n_1 y.1 a_0_0 y.2 st) (fun c J hc y h=>Zby.p1_ok (i_1:=y.1) (out_3:=y.2) h hE (fun i_1 out_3=>hc (i_1,out_3))) N (w64 (Int.tdiv (if (0:Int)>n_1 then 0 else n_1) 64),List.replicate 4 0) h8))
noncomputable def ZaG.B:Code:=Tryz.f116.body.getD .skip
noncomputable def ZaG.rs (r:(List Int)×Bool×Bool):List CV:=[.agg [L.arr .u64 4 r.1],oB r.2.1,oB r.2.2]
noncomputable def ZaG.p2 (N:Nat) (bits_0:Int) (below_6:Bool) (n_5:List Int):Option ((List Int)×Bool×Bool):=
 if ((bitsOf .and .i64 bits_0 8388607) != 0)=true then
  if (decide ((shrOf .i64 bits_0 24)>34))=true then
   some (n_5,below_6,true)
  else
  if (decide ((bitsOf .and .i64 bits_0 8388607)>255))=true then
   if (decide ((shrOf .i64 bits_0 24)>33))=true then
    some (n_5,below_6,true)
   else
   if (decide ((bitsOf .and .i64 bits_0 8388607)>65535))=true then
    some (n_5,below_6,decide ((shrOf .i64 bits_0 24)>32))
   else
   some (n_5,below_6,false)
  else
  if (decide ((bitsOf .and .i64 bits_0 8388607)>65535))=true then
   some (n_5,below_6,decide ((shrOf .i64 bits_0 24)>32))
  else
  some (n_5,below_6,false)
 else
 some (n_5,below_6,false)
noncomputable def ZaG.p1 (N:Nat) (bits_0:Int) (n_5:List Int):Option ((List Int)×Bool×Bool):=
 if ((bitsOf .and .i64 bits_0 8388607) != 0)=true then
  ZaG.p2 N bits_0 ((bitsOf .and .i64 bits_0 8388608) != 0) n_5
 else
 ZaG.p2 N bits_0 false n_5
noncomputable def ZaG (N:Nat) (bits_0:Int):Option ((List Int)×Bool×Bool):=
 optE (ZcG N bits_0) fun x1=>
 if (!x1)=true then
  some (List.replicate 4 0,false,false)
 else
 optE (ZcH N (v64 (bitsOf .and .i64 bits_0 8388607))) fun x2=>
 if (decide ((shrOf .i64 bits_0 24)≤3))=true then
  optE (ZaZ N x2 (w64 (8*(w64 (3-(shrOf .i64 bits_0 24)))))) fun x3=>
  ZaG.p1 N bits_0 x3
 else
 optE (Zby N x2 (w64 (8*(w64 ((shrOf .i64 bits_0 24)-3))))) fun x4=>
 ZaG.p1 N bits_0 x4
noncomputable def ZaG.p2.S (bits_0:Int) (below_6:Bool) (n_5:List Int) (st:LL):S:=mkS 65 [(2,sA 2),(5,sI (shrOf .i64 bits_0 24)),(6,sI (bitsOf .and .i64 bits_0 8388607)),(7,sA 7),(8,.one (.l (L.bool below_6)))] [(2,.cells [L.arr .u64 4 (List.replicate 4 0)]),(7,.cells [L.arr .u64 4 n_5])] st
noncomputable def ZaG.p1.S (bits_0:Int) (n_5:List Int) (st:LL):S:=mkS 65 [(0,sI bits_0),(2,sA 2),(5,sI (shrOf .i64 bits_0 24)),(6,sI (bitsOf .and .i64 bits_0 8388607)),(7,sA 7)] [(2,.cells [L.arr .u64 4 (List.replicate 4 0)]),(7,.cells [L.arr .u64 4 n_5])] st
theorem ZaG.p2_ok {bits_0 below_6 n_5 st r} (h:ZaG.p2 N bits_0 below_6 n_5=some r) (hE:En Tryz.f116 g0 w0 (ZaG.rs r) st R):At g0 w0 (ZaG.p2.S bits_0 below_6 n_5 st) (XK Tryz.prog R [.c (csub ZaG.B [1,1,1,1,1,1])]):=by
 unfold ZaG.p2 at h
 refine iteB h (fun c8 h1=>?_) (fun c8 h2=>?_)
 ·have t1 {Q:Prop} (q:Q):=aK c8 c8 c8 q
  refine iteB h1 (fun c9 h3=>?_) (fun c9 h4=>?_)
  ·obtain rfl:=Zad h3
   exact af fol hE [.r [(6,wF),(7,wF),(8,wF),(11,wF),(14,wF),(15,wF),(16,wF),(19,wF)],.r []] [] 0 [] (t1 (aO c9 c9 c9 c9 c8 c9 c8 (aN eT eT eT eT c8 eT c8)))
  ·have t2 {Q:Prop} (q:Q):=t1 (aK c9 c9 c9 q)
   refine iteB h4 (fun c10 h5=>?_) (fun c10 h6=>?_)
   ·have t3 {Q:Prop} (q:Q):=t2 (aO c10 c10 c9 c10 c8 c9 c8 q)
    refine iteB h5 (fun c11 h7=>?_) (fun c11 h8=>?_)
    ·obtain rfl:=Zad h7
     exact af fol hE [.r [(12,yF),(14,wF),(15,wF),(16,wF),(19,wF)],.r []] [] 0 [] (t3 (aN c11 c11 c11 c11 c8 c11 c8))
    ·refine iteB h8 (fun c12 h9=>?_) (fun c12 h10=>?_)
     ·obtain rfl:=Zad h9
      exact af fol hE [.r [(12,yF),(20,yF)],.r []] [] 0 [] (t3 (aO c11 c11 c11 c12 c12 c11 c12 (aJ c8 c11 c8)))
     ·obtain rfl:=Zad h10
      exact af fol hE [.r [(12,yF),(17,wF),(18,wF),(19,yF),(20,yF)],.r []] [] 0 [] (t3 (aO c11 c11 c11 c12 c12 c11 c12 (aJ c8 c11 c8)))
   ·have t4 {Q:Prop} (q:Q):=t2 (aO c10 c10 c9 c10 c8 c9 c8 (aK eF eF eF q))
    refine iteB h6 (fun c13 h11=>?_) (fun c13 h12=>?_)
    ·obtain rfl:=Zad h11
     exact af fol hE [.r [(9,wF),(10,wF),(11,yF),(12,yF),(20,yF)],.r []] [] 0 [] (t4 (aN c13 c13 eF c13 c8 eF c8))
    ·obtain rfl:=Zad h12
     exact af fol hE [.r [(9,wF),(10,wF),(11,yF),(12,yF),(17,wF),(18,wF),(19,yF),(20,yF)],.r []] [] 0 [] (t4 (aN c13 c13 eF c13 c8 eF c8))
 ·obtain rfl:=Zad h2
  exact af fol hE [.r [(3,wF),(4,wF),(5,wF),(12,wF),(13,wF),(20,wF),(21,yF)],.r []] [] 0 [] (aN c8 c8 c8 c8 c8 c8 c8)
theorem ZaG.p1_ok {bits_0 n_5 st r} (h:ZaG.p1 N bits_0 n_5=some r) (hE:En Tryz.f116 g0 w0 (ZaG.rs r) st R):At g0 w0 (ZaG.p1.S bits_0 n_5 st) (XK Tryz.prog R [.c (csub ZaG.B [1,1,1,1,1])]):=by
 unfold ZaG.p1 at h
 refine iteB h (fun c7 h13=>?_) (fun c7 h14=>?_)
 ·exact aq fol [.r [],.s 1] [2,5,6,7,8] [2,7] (aK c7 c7 c7 c7) (ZaG.p2_ok h13 hE)
 ·exact aq fol [.r [(3,wF),(4,wF),(5,wF),(6,yF)],.s 1] [2,5,6,7,8] [2,7] (aK c7 c7 c7 c7) (ZaG.p2_ok h14 hE)
theorem ZaG.snd {bits_0:Int} {r:(List Int)×Bool×Bool} (h:ZaG N bits_0=some r):SndQ Tryz.prog 116 [oI bits_0] (ZaG.rs r):=fun st=>
 sO ZaG.B Tryz.func116 fun g0 w0 R hE=>by
  unfold ZaG at h
  obtain ⟨x1,c1,h15⟩:=Zae h
  let o1:List PS:=[.r [],.r [(1,q1 [oB x1])]]
  have t5 {Q:Prop} (q:Q):=aI (ZcG.snd c1) q
  refine iteB h15 (fun c2 h16=>?_) (fun c2 h17=>?_)
  ·obtain rfl:=Zad h16
   exact af fol hE (o1 ++ [.c true,.r []]) [] 0 [] (t5 c2)
  ·obtain ⟨x2,c3,h18⟩:=Zae h17
   let o2:List PS:=o1 ++ [.c false,.r [],.r [(2,q1 [.agg [L.arr .u64 4 x2]])],.r []]
   refine iteB h18 (fun c4 h19=>?_) (fun c4 h20=>?_)
   ·obtain ⟨x3,c5,h21⟩:=Zae h19
    exact aq fol (o2 ++ [.c true,.r [(4,q1 [.agg [L.arr .u64 4 x3]])],.s 1]) [0,2,5,6,7] [2,7] (t5 (aL c2 (leI 0 24) (ZcH.snd c3) c4 (ZaZ.snd c5))) (ZaG.p1_ok h21 hE)
   ·obtain ⟨x4,c6,h22⟩:=Zae h20
    exact aq fol (o2 ++ [.c false,.r [(4,q1 [.agg [L.arr .u64 4 x4]])],.s 1]) [0,2,5,6,7] [2,7] (t5 (aL c2 (leI 0 24) (ZcH.snd c3) c4 (Zby.snd c6))) (ZaG.p1_ok h22 hE)
noncomputable def Zcr.B:Code:=Tryz.f117.body.getD .skip
noncomputable def Zcr.rs (r:Bool):List CV:=[oB r]
noncomputable def Zcr (N:Nat) (a_0_0:List Int):Option Bool:=
 some (a_0_0==(List.replicate 4 0))
theorem Zcr.snd {a_0_0:List Int} {r:Bool} (h:Zcr N a_0_0=some r):SndQ Tryz.prog 117 [.agg [L.arr .u64 4 a_0_0]] (Zcr.rs r):=fun st=>
 sO Zcr.B Tryz.func117 fun g0 w0 R hE=>by
  unfold Zcr at h
  obtain rfl:=Zad h
  exact af fol hE [.r [],.r []] [] 0 [] trivial
noncomputable def Zbj.B:Code:=Tryz.f95.body.getD .skip
noncomputable def Zbj.rs (r:Int):List CV:=[oI r]
noncomputable def Zbj.p1 (N:Nat) (a_0_0 b_1_0:List Int) (c1_:Int→Option Int):Int→Option Int:=fun i_1=>
 if (decide (i_1≥0))=true then
  chk (0≤i_1)<|
  chk (i_1<4)<|
  if (decide ((List.getD a_0_0 (Int.toNat i_1) 0)<(List.getD b_1_0 (Int.toNat i_1) 0)))=true then
   some (-1)
  else
  if (decide ((List.getD a_0_0 (Int.toNat i_1) 0)>(List.getD b_1_0 (Int.toNat i_1) 0)))=true then
   some 1
  else
  c1_ (w64 (i_1-1))
 else
 some 0
noncomputable def Zbj (N:Nat) (a_0_0 b_1_0:List Int):Option Int:=
 loopN (Zbj.p1 N a_0_0 b_1_0) N 3
noncomputable def Zbj.p1.S (i_1:Int) (a_0_0 b_1_0:List Int) (st:LL):S:=mkS 26 [(2,sA 2),(3,sA 3),(5,sI i_1)] [(2,.cells [L.arr .u64 4 a_0_0]),(3,.cells [L.arr .u64 4 b_1_0])] st
theorem Zbj.p1_ok {i_1 a_0_0 b_1_0 st r c1_ J1} (h:Zbj.p1 N a_0_0 b_1_0 c1_ i_1=some r) (hE:En Tryz.f95 g0 w0 (Zbj.rs r) st R) (hc1 : ∀i_1,c1_ i_1=some r→At g0 w0 (Zbj.p1.S i_1 a_0_0 b_1_0 st) J1):At g0 w0 (Zbj.p1.S i_1 a_0_0 b_1_0 st) (XK Tryz.prog R (.c (csub Zbj.B [1,0,1,0,0]) :: .h J1 :: [.b 0,.c (csub Zbj.B [1,1])])):=by
 unfold Zbj.p1 at h
 refine iteB h (fun c1 h1=>?_) (fun c1 h2=>?_)
 ·obtain ⟨c2,c3,h3⟩:=ck2 h1
  let o1:List PS:=[.r [],.c true,.d {ds:=[],hv:=0,Hs:=[]}]
  refine iteB h3 (fun c4 h4=>?_) (fun c4 h5=>?_)
  ·obtain rfl:=Zad h4
   exact afd fol hE (o1 ++ [.c true,.r []]) [] 0 [] (aM c1 c2 c3 c2 c3 c4)
  ·let o2:List PS:=o1 ++ [.c false,.d {ds:=[],hv:=0,Hs:=[]}]
   refine iteB h5 (fun c5 h6=>?_) (fun c5 h7=>?_)
   ·obtain rfl:=Zad h6
    exact afd fol hE (o2 ++ [.c true,.r []]) [] 0 [] (aO c1 c2 c3 c2 c3 c4 c2 (aK c3 c2 c3 c5))
   ·exact and_ fol (o2 ++ [.c false,.r []]) [2,3,5] [2,3] (aO c1 c2 c3 c2 c3 c4 c2 (aK c3 c2 c3 c5)) (hc1 (w64 (i_1-1)) h7)
 ·obtain rfl:=Zad h2
  exact af fol hE [.r [],.c false,.r []] [] 0 [] c1
theorem Zbj.snd {a_0_0 b_1_0:List Int} {r:Int} (h:Zbj N a_0_0 b_1_0=some r):SndQ Tryz.prog 95 [.agg [L.arr .u64 4 a_0_0],.agg [L.arr .u64 4 b_1_0]] (Zbj.rs r):=fun st=>
 sO Zbj.B Tryz.func95 fun g0 w0 R hE=>by
  unfold Zbj at h
  exact aq fol [.r [],.r []] [2,3,5] [2,3] trivial (At.loop N (At.loopN (fun y:Int=>Zbj.p1.S y a_0_0 b_1_0 st) (fun c J hc y h=>Zbj.p1_ok h hE (fun i_1=>hc i_1)) N 3 h))
noncomputable def Zco.B:Code:=Tryz.f202.body.getD .skip
noncomputable def Zco.rs (r:Bool):List CV:=[oB r]
noncomputable def Zco (N:Nat) (a_0_0 b_1_0:List Int):Option Bool:=
 optE (Zbj N a_0_0 b_1_0) fun x1=>
 some (decide (x1<0))
theorem Zco.snd {a_0_0 b_1_0:List Int} {r:Bool} (h:Zco N a_0_0 b_1_0=some r):SndQ Tryz.prog 202 [.agg [L.arr .u64 4 a_0_0],.agg [L.arr .u64 4 b_1_0]] (Zco.rs r):=fun st=>
 sO Zco.B Tryz.func202 fun g0 w0 R hE=>by
  unfold Zco at h
  obtain ⟨x1,c1,h1⟩:=Zae h
  obtain rfl:=Zad h1
  exact af fol hE [.r [],.r [(2,q1 [oI x1])]] [] 0 [] (Zbj.snd c1)
noncomputable def ZbV.B:Code:=Tryz.f185.body.getD .skip
noncomputable def ZbV.rs (r:(List Int)×Bool):List CV:=[.agg [L.arr .u64 4 r.1],oB r.2]
noncomputable def ZbV (N:Nat) (bits_0 limit_1:Int):Option ((List Int)×Bool):=
 optE (ZaG N bits_0) fun (x1,x2,x3)=>
 optE (ZaG N limit_1) fun (x4,x5,x6)=>
 if x2=true then
  some (List.replicate 4 0,false)
 else
 if x3=true then
  some (List.replicate 4 0,false)
 else
 if x5=true then
  some (List.replicate 4 0,false)
 else
 if x6=true then
  some (List.replicate 4 0,false)
 else
 optE (Zcr N x1) fun x7=>
 if x7=true then
  some (List.replicate 4 0,false)
 else
 optE (Zco N x4 x1) fun x8=>
 if x8=true then
  some (List.replicate 4 0,false)
 else
 some (x1,true)
theorem ZbV.snd {bits_0 limit_1:Int} {r:(List Int)×Bool} (h:ZbV N bits_0 limit_1=some r):SndQ Tryz.prog 185 [oI bits_0,oI limit_1] (ZbV.rs r):=fun st=>
 sO ZbV.B Tryz.func185 fun g0 w0 R hE=>by
  unfold ZbV at h
  obtain ⟨⟨x1,x2,x3⟩,c1,h1⟩:=Zae h
  obtain ⟨⟨x4,x5,x6⟩,c2,h2⟩:=Zae h1
  let o1:List PS:=[.r [],.r [(1,q1 [.agg [L.arr .u64 4 x1],oB x2,oB x3])],.r [(1,q1 [.agg [L.arr .u64 4 x4],oB x5,oB x6])]]
  have t1 {Q:Prop} (q:Q):=aJ (ZaG.snd c1) (ZaG.snd c2) q
  refine iteB h2 (fun c3 h3=>?_) (fun c3 h4=>?_)
  ·obtain rfl:=Zad h3
   exact af fol hE (o1 ++ [.r [(2,wF),(5,wF),(8,wF),(11,wF),(12,wF),(15,wF),(16,wF),(17,wF)],.c true,.r []]) [] 0 [] (t1 (aO c3 c3 eT eT eT eT eT (aN eT eT eT eT eT eT eT)))
  ·refine iteB h4 (fun c4 h5=>?_) (fun c4 h6=>?_)
   ·obtain rfl:=Zad h5
    exact af fol hE (o1 ++ [.r [(3,yF),(5,wF),(8,wF),(11,wF),(12,wF),(15,wF),(16,wF),(17,wF)],.c true,.r []]) [] 0 [] (t1 (aO c3 c3 c4 c4 eT eT eT (aN eT eT eT eT eT eT eT)))
   ·have t2 {Q:Prop} (q:Q):=t1 (aL c3 c3 c4 c4 q)
    refine iteB h6 (fun c5 h7=>?_) (fun c5 h8=>?_)
    ·obtain rfl:=Zad h7
     exact af fol hE (o1 ++ [.r [(3,yF),(6,yF),(8,wF),(11,wF),(12,wF),(15,wF),(16,wF),(17,wF)],.c true,.r []]) [] 0 [] (t2 (aO c5 c5 eT eT eT eT eT (aJ eT eT eT)))
    ·refine iteB h8 (fun c6 h9=>?_) (fun c6 h10=>?_)
     ·obtain rfl:=Zad h9
      exact af fol hE (o1 ++ [.r [(3,yF),(6,yF),(9,yF),(11,wF),(12,wF),(15,wF),(16,wF),(17,wF)],.c true,.r []]) [] 0 [] (t2 (aO c5 c5 c6 c6 c6 eT eT (aJ eT eT eT)))
     ·obtain ⟨x7,c7,h11⟩:=Zae h10
      have t3 {Q:Prop} (q:Q):=t2 (aN c5 c5 c6 c6 (Zcr.snd c7) c6 q)
      refine iteB h11 (fun c8 h12=>?_) (fun c8 h13=>?_)
      ·obtain rfl:=Zad h12
       exact af fol hE (o1 ++ [.r [(3,yF),(6,yF),(9,yF),(12,q1 [oB x7]),(13,yF),(15,wF),(16,wF),(17,wF)],.c true,.r []]) [] 0 [] (t3 (aL c8 c8 c8 c8 eT))
      ·obtain ⟨x8,c9,h14⟩:=Zae h13
       let o2:List PS:=o1 ++ [.r [(3,yF),(6,yF),(9,yF),(12,q1 [oB x7]),(13,yF),(17,q1 [oB x8]),(18,yF)]]
       refine iteB h14 (fun c10 h15=>?_) (fun c10 h16=>?_)
       ·obtain rfl:=Zad h15
        exact af fol hE (o2 ++ [.c true,.r []]) [] 0 [] (t3 (aM c8 c8 c8 (Zco.snd c9) c8 c10))
       ·obtain rfl:=Zad h16
        exact af fol hE (o2 ++ [.c false,.r []]) [] 0 [] (t3 (aM c8 c8 c8 (Zco.snd c9) c8 c10))
noncomputable def Zdu.B:Code:=Tryz.f145.body.getD .skip
noncomputable def Zdu.rs (r:Bool):List CV:=[oB r]
noncomputable def Zdu (N:Nat) (p_0:Zai):Option Bool:=
 optE (ZbV N p_0.Limit p_0.Limit) fun (x1,x2)=>
 if x2=true then
  if (decide (p_0.Interval≥2))=true then
   if (decide (p_0.Interval≤64))=true then
    if (decide (p_0.Spacing≥1))=true then
     if (decide (p_0.Spacing≤10000))=true then
      if (decide (p_0.Future≥0))=true then
       some (decide (p_0.Future<4294967296))
      else
      some false
     else
     some false
    else
    some false
   else
   some false
  else
  some false
 else
 some false
theorem Zdu.snd {p_0:Zai} {r:Bool} (h:Zdu N p_0=some r):SndQ Tryz.prog 145 [.agg p_0.ls] (Zdu.rs r):=fun st=>
 sO Zdu.B Tryz.func145 fun g0 w0 R hE=>by
  unfold Zdu at h
  obtain ⟨⟨x1,x2⟩,c1,h1⟩:=Zae h
  let o1:List PS:=[.r [],.r [(4,q1 [.agg [L.arr .u64 4 x1],oB x2])]]
  have t1 {Q:Prop} (q:Q):=aI (ZbV.snd c1) q
  refine iteB h1 (fun c2 h2=>?_) (fun c2 h3=>?_)
  ·have t2 {Q:Prop} (q:Q):=t1 (aL c2 c2 c2 c2 q)
   refine iteB h2 (fun c3 h4=>?_) (fun c3 h5=>?_)
   ·have t3 {Q:Prop} (q:Q):=t2 (aL c3 c3 c3 c3 q)
    refine iteB h4 (fun c4 h6=>?_) (fun c4 h7=>?_)
    ·have t4 {Q:Prop} (q:Q):=t3 (aL c4 c4 c4 c4 q)
     refine iteB h6 (fun c5 h8=>?_) (fun c5 h9=>?_)
     ·refine iteB h8 (fun c6 h10=>?_) (fun c6 h11=>?_)
      ·refine iteB h10 (fun c7 h12=>?_) (fun c7 h13=>?_)
       ·obtain rfl:=Zad h12
        exact af fol hE (o1 ++ [.r []]) [] 0 [] (t4 (aO c5 c5 c5 c5 c6 c6 c6 (aL c6 c7 c7 c7 c7)))
       ·obtain rfl:=Zad h13
        exact af fol hE (o1 ++ [.r [(27,wF),(28,wF),(29,wF),(30,yF)]]) [] 0 [] (t4 (aO c5 c5 c5 c5 c6 c6 c6 (aL c6 c7 c7 c7 c7)))
      ·obtain rfl:=Zad h11
       exact af fol hE (o1 ++ [.r [(22,wF),(23,wF),(24,wF),(25,yF),(27,wF),(28,wF),(29,wF),(30,yF)]]) [] 0 [] (t4 (aO c5 c5 c5 c5 c6 c6 c6 (aL c6 eF eF eF eF)))
     ·obtain rfl:=Zad h9
      exact af fol hE (o1 ++ [.r [(17,wF),(18,wF),(19,wF),(20,yF),(22,wF),(23,wF),(24,wF),(25,yF),(27,wF),(28,wF),(29,wF),(30,yF)]]) [] 0 [] (t4 (aO c5 c5 c5 c5 eF eF eF (aL eF eF eF eF eF)))
    ·obtain rfl:=Zad h7
     exact af fol hE (o1 ++ [.r [(12,wF),(13,wF),(14,wF),(15,yF),(17,wF),(18,wF),(19,wF),(20,yF),(22,wF),(23,wF),(24,wF),(25,yF),(27,wF),(28,wF),(29,wF),(30,yF)]]) [] 0 [] (t3 (aO c4 c4 c4 c4 eF eF eF (aO eF eF eF eF eF eF eF (aI eF eF))))
   ·obtain rfl:=Zad h5
    exact af fol hE (o1 ++ [.r [(7,wF),(8,wF),(9,wF),(10,yF),(12,wF),(13,wF),(14,wF),(15,yF),(17,wF),(18,wF),(19,wF),(20,yF),(22,wF),(23,wF),(24,wF),(25,yF),(27,wF),(28,wF),(29,wF),(30,yF)]]) [] 0 [] (t2 (aO c3 c3 c3 c3 eF eF eF (aO eF eF eF eF eF eF eF (aM eF eF eF eF eF eF))))
  ·obtain rfl:=Zad h3
   exact af fol hE (o1 ++ [.r [(2,wF),(3,wF),(4,wF),(5,yF),(7,wF),(8,wF),(9,wF),(10,yF),(12,wF),(13,wF),(14,wF),(15,yF),(17,wF),(18,wF),(19,wF),(20,yF),(22,wF),(23,wF),(24,wF),(25,yF),(27,wF),(28,wF),(29,wF),(30,yF)]]) [] 0 [] (t1 (aO c2 c2 c2 c2 eF eF eF (aO eF eF eF eF eF eF eF (aO eF eF eF eF eF eF eF (aJ eF eF eF)))))
noncomputable def ZbA.B:Code:=Tryz.f87.body.getD .skip
noncomputable def ZbA.rs (r:Bool):List CV:=[oB r]
noncomputable def ZbA.p2 (N:Nat) (p_0:Zai) (c2_:Int→Option Bool):Int→Option Bool:=fun v6=>
 if (decide (v6<(len p_0.Checks)))=true then
  chk (0≤v6)<|
  getE (p_0.Checks[Int.toNat v6]?) Zdp fun x7=>
  if (decide (x7.Height<1))=true then
   some false
  else
  if (decide (v6>0))=true then
   chk (0≤(w64 (v6-1)))<|
   chk ((w64 (v6-1))<(len p_0.Checks))<|
   getE (p_0.Checks[Int.toNat (w64 (v6-1))]?) Zdp fun x8=>
   if (decide (x7.Height≤x8.Height))=true then
    some false
   else
   c2_ (w64 (v6+1))
  else
  c2_ (w64 (v6+1))
 else
 some true
noncomputable def ZbA.p1 (N:Nat) (p_0:Zai) (c1_:Int→Option Bool):Int→Option Bool:=fun v3=>
 if (decide (v3<(len p_0.Gates)))=true then
  chk (0≤v3)<|
  getE (p_0.Gates[Int.toNat v3]?) ZdA fun x4=>
  if (decide (x4.Height<0))=true then
   some false
  else
  if (decide (v3>0))=true then
   chk (0≤(w64 (v3-1)))<|
   chk ((w64 (v3-1))<(len p_0.Gates))<|
   getE (p_0.Gates[Int.toNat (w64 (v3-1))]?) ZdA fun x5=>
   if (decide (x4.Height≤x5.Height))=true then
    some false
   else
   c1_ (w64 (v3+1))
  else
  c1_ (w64 (v3+1))
 else
 loopN (ZbA.p2 N p_0) N 0
noncomputable def ZbA (N:Nat) (p_0:Zai):Option Bool:=
 optE (Zdu N p_0) fun x1=>
 if (!x1)=true then
  some false
 else
 optE (Zcg N p_0.Genesis) fun x2=>
 if (!x2)=true then
  some false
 else
 loopN (ZbA.p1 N p_0) N 0
noncomputable def ZbA.p2.S (p_0:Zai) (v6:Int) (st:LL):S:=mkS 72 [(1,sA 1),(45,sV 33 p_0.Checks),(46,sI (len p_0.Checks)),(47,sI v6)] [(1,.cells p_0.ls)] st
noncomputable def ZbA.p1.S (p_0:Zai) (v3:Int) (st:LL):S:=mkS 72 [(1,sA 1),(17,sV 2 p_0.Gates),(18,sI (len p_0.Gates)),(19,sI v3)] [(1,.cells p_0.ls)] st
theorem ZbA.p2_ok {p_0 v6 st r c2_ J2} (h:ZbA.p2 N p_0 c2_ v6=some r) (hE:En Tryz.f87 g0 w0 (ZbA.rs r) st R) (hc2 : ∀v6,c2_ v6=some r→At g0 w0 (ZbA.p2.S p_0 v6 st) J2):At g0 w0 (ZbA.p2.S p_0 v6 st) (XK Tryz.prog R (.c (csub ZbA.B [1,1,1,0,1,0,0]) :: .h J2 :: [.b 2,.c (csub ZbA.B [1,1,1,1])])):=by
 unfold ZbA.p2 at h
 refine iteB h (fun c14 h1=>?_) (fun c14 h2=>?_)
 ·obtain ⟨c15,h3⟩:=ZaO h1
  obtain ⟨x7,c16,h4⟩:=Zdy h3
  let o1:List PS:=[.r [],.c true,.r [(2,{oe:=x7.ls})]]
  have t1 {Q:Prop} (q:Q):=aL c14 c15 (oD c14) c16 q
  refine iteB h4 (fun c17 h5=>?_) (fun c17 h6=>?_)
  ·obtain rfl:=Zad h5
   exact afd fol hE (o1 ++ [.d {ds:=[(4,wF),(5,wF),(6,wF),(17,wF)],hv:=0,Hs:=[]},.c true,.r []]) [] 0 [] (t1 (aM c17 c17 c17 c17 c17 eT))
  ·refine iteB h6 (fun c18 h7=>?_) (fun c18 h8=>?_)
   ·obtain ⟨c19,c20,h9⟩:=ck2 h7
    obtain ⟨x8,c21,h10⟩:=Zdy h9
    let o2:List PS:=o1 ++ [.d {ds:=[(15,{oe:=x8.ls}),(18,yF)],hv:=0,Hs:=[]}]
    have t2 {Q:Prop} (q:Q):=t1 (aO c17 c17 c17 c18 c18 c18 c18 (aO c18 c18 c18 c19 c20 c18 c18 (aM c21 c18 c17 c18 c17 q)))
    refine iteB h10 (fun c22 h11=>?_) (fun c22 h12=>?_)
    ·obtain rfl:=Zad h11
     exact afd fol hE (o2 ++ [.c true,.r []]) [] 0 [] (t2 c22)
    ·exact and_ fol (o2 ++ [.c false,.r []]) [1,45,46,47] [1] (t2 c22) (hc2 (w64 (v6+1)) h12)
   ·exact and_ fol (o1 ++ [.d {ds:=[(7,wF),(8,wF),(9,wF),(10,wF),(11,wF),(12,wF),(13,wF),(14,wF),(15,wF),(16,wF),(17,yF),(18,yF)],hv:=0,Hs:=[]},.c false,.r []]) [1,45,46,47] [1] (t1 (aO c17 c17 c17 c18 c18 c18 c18 (aO c18 c18 c18 c18 c18 c18 c17 (aJ c18 c17 eF)))) (hc2 (w64 (v6+1)) h8)
 ·obtain rfl:=Zad h2
  exact af fol hE [.r [],.c false,.r []] [] 0 [] c14
theorem ZbA.p1_ok {p_0 v3 st r c1_ J1} (h:ZbA.p1 N p_0 c1_ v3=some r) (hE:En Tryz.f87 g0 w0 (ZbA.rs r) st R) (hc1 : ∀v3,c1_ v3=some r→At g0 w0 (ZbA.p1.S p_0 v3 st) J1):At g0 w0 (ZbA.p1.S p_0 v3 st) (XK Tryz.prog R (.c (csub ZbA.B [1,1,0,1,0,0]) :: .h J1 :: [.b 0,.c (csub ZbA.B [1,1,1])])):=by
 unfold ZbA.p1 at h
 refine iteB h (fun c5 h13=>?_) (fun c5 h14=>?_)
 ·obtain ⟨c6,h15⟩:=ZaO h13
  obtain ⟨x4,c7,h16⟩:=ZdE h15
  let o3:List PS:=[.r [],.c true,.r [(2,{oe:=x4.ls})]]
  have t3 {Q:Prop} (q:Q):=aL c5 c6 (oD c5) c7 q
  refine iteB h16 (fun c8 h17=>?_) (fun c8 h18=>?_)
  ·obtain rfl:=Zad h17
   exact afd fol hE (o3 ++ [.d {ds:=[(4,wF),(5,wF),(6,wF),(17,wF)],hv:=0,Hs:=[]},.c true,.r []]) [] 0 [] (t3 (aM c8 c8 c8 c8 c8 eT))
  ·refine iteB h18 (fun c9 h19=>?_) (fun c9 h20=>?_)
   ·obtain ⟨c10,c11,h21⟩:=ck2 h19
    obtain ⟨x5,c12,h22⟩:=ZdE h21
    let o4:List PS:=o3 ++ [.d {ds:=[(15,{oe:=x5.ls}),(18,yF)],hv:=0,Hs:=[]}]
    have t4 {Q:Prop} (q:Q):=t3 (aO c8 c8 c8 c9 c9 c9 c9 (aO c9 c9 c9 c10 c11 c9 c9 (aM c12 c9 c8 c9 c8 q)))
    refine iteB h22 (fun c13 h23=>?_) (fun c13 h24=>?_)
    ·obtain rfl:=Zad h23
     exact afd fol hE (o4 ++ [.c true,.r []]) [] 0 [] (t4 c13)
    ·exact and_ fol (o4 ++ [.c false,.r []]) [1,17,18,19] [1] (t4 c13) (hc1 (w64 (v3+1)) h24)
   ·exact and_ fol (o3 ++ [.d {ds:=[(7,wF),(8,wF),(9,wF),(10,wF),(11,wF),(12,wF),(13,wF),(14,wF),(15,wF),(16,wF),(17,yF),(18,yF)],hv:=0,Hs:=[]},.c false,.r []]) [1,17,18,19] [1] (t3 (aO c8 c8 c8 c9 c9 c9 c9 (aO c9 c9 c9 c9 c9 c9 c8 (aJ c9 c8 eF)))) (hc1 (w64 (v3+1)) h20)
 ·exact aq fol [.r [],.c false,.r []] [1,45,46,47] [1] c5 (At.loop N (At.loopN (fun y:Int=>ZbA.p2.S p_0 y st) (fun c J hc y h=>ZbA.p2_ok h hE (fun v6=>hc v6)) N 0 h14))
theorem ZbA.snd {p_0:Zai} {r:Bool} (h:ZbA N p_0=some r):SndQ Tryz.prog 87 [.agg p_0.ls] (ZbA.rs r):=fun st=>
 sO ZbA.B Tryz.func87 fun g0 w0 R hE=>by
  unfold ZbA at h
  obtain ⟨x1,c1,h25⟩:=Zae h
  have t5 {Q:Prop} (q:Q):=aI (Zdu.snd c1) q
  refine iteB h25 (fun c2 h26=>?_) (fun c2 h27=>?_)
  ·obtain rfl:=Zad h26
   exact af fol hE [.r [],.r [(1,q1 [oB x1]),(4,wF),(5,wF),(6,wF),(7,wF)],.c true,.r []] [] 0 [] (t5 (aM (not_false (Zbh c2)) (not_false (Zbh c2)) (not_false (Zbh c2)) (not_false (Zbh c2)) (not_false (Zbh c2)) eT))
  ·obtain ⟨x2,c3,h28⟩:=Zae h27
   let o5:List PS:=[.r [],.r [(1,q1 [oB x1]),(6,q1 [oB x2]),(8,yF)]]
   have t6 {Q:Prop} (q:Q):=t5 (aN (not_true (Zbe c2)) (not_true (Zbe c2)) (not_true (Zbe c2)) (Zcg.snd c3) (not_true (Zbe c2)) (not_true (Zbe c2)) q)
   refine iteB h28 (fun c4 h29=>?_) (fun c4 h30=>?_)
   ·obtain rfl:=Zad h29
    exact af fol hE (o5 ++ [.c true,.r []]) [] 0 [] (t6 c4)
   ·exact aq fol (o5 ++ [.c false,.r []]) [1,17,18,19] [1] (t6 c4) (At.loop N (At.loopN (fun y:Int=>ZbA.p1.S p_0 y st) (fun c J hc y h=>ZbA.p1_ok h hE (fun v3=>hc v3)) N 0 h30))
noncomputable def Zdv.B:Code:=Tryz.f162.body.getD .skip
noncomputable def Zdv.rs (r:Int):List CV:=[oI r]
noncomputable def Zdv (N:Nat) (times_0:LL):Option Int:=
 chk (0≤(if (11:Int)<(len times_0) then 11 else (len times_0)))<|
 chk ((Int.toNat (if (11:Int)<(len times_0) then 11 else (len times_0)))≤(List.length times_0))<|
 optE (Zbt N (List.take (Int.toNat (if (11:Int)<(len times_0) then 11 else (len times_0))) (List.drop 0 times_0))) fun x1=>
 if ((len x1)==0)=true then
  some 0
 else
 chk (isI x1=true)<|
 chk (List.length x1<4611686018427387904)<|
 chk (0≤(w64 (Int.tdiv (len x1) 2)))<|
 chk ((w64 (Int.tdiv (len x1) 2))<(len x1))<|
 getE ((sortR x1)[0+(Int.toNat (w64 (Int.tdiv (len x1) 2)))]?) Zel fun x2=>
 some x2
theorem Zdv.snd {times_0:LL} {r:Int} (h:Zdv N times_0=some r):SndQ Tryz.prog 162 [.one (L.sl 1 times_0)] (Zdv.rs r):=fun st=>
 sO Zdv.B Tryz.func162 fun g0 w0 R hE=>by
  unfold Zdv at h
  obtain ⟨c1,c2,h1⟩:=ck2 h
  obtain ⟨x1,c3,h2⟩:=Zae h1
  let o1:List PS:=[.r [],.r [(5,{rs:=[.row true 1 x1],ns:=[9],m:=1})],.r []]
  have t1 {Q:Prop} (q:Q):=aL c1 (Nat.zero_le (Int.toNat (if (11:Int)<(len times_0) then 11 else (len times_0)))) c2 (Zbt.snd c3) q
  refine iteB h2 (fun c4 h3=>?_) (fun c4 h4=>?_)
  ·obtain rfl:=Zad h3
   exact af fol hE (o1 ++ [.c true,.r []]) [] 0 [] (t1 c4)
  ·obtain ⟨c5,c6,c7,c8,h5⟩:=ck4 h4
   obtain ⟨x2,c9,h6⟩:=Zdh h5
   obtain rfl:=Zad h6
   exact af fol hE (o1 ++ [.c false,.r [(1,{m:=7})],.r [(5,{oe:=[L.int .i64 x2]})]]) [] 0 [] (t1 (aO c4 z0 (@rfl _ (List.length x1):(List.length x1)=(List.length x1)) c5 c6 slices_Sort_int.snd (neI 2) (aJ c7 c8 c9)))
noncomputable def Zcp.B:Code:=Tryz.f103.body.getD .skip
noncomputable def Zcp.rs (r:Int):List CV:=[oI r]
noncomputable def Zcp (N:Nat) (plan_0:Zbi) (seconds_1:Int):Option Int:=
 optE (Zcy N plan_0) fun x1=>
 if (!x1)=true then
  some 0
 else
 if (decide (seconds_1<0))=true then
  some 0
 else
 chk (plan_0.Period≠0)<|
 some (w64 ((w64 (Int.tdiv (w64 (6*(if (8589934592:Int)<seconds_1 then 8589934592 else seconds_1))) plan_0.Period))+1))
theorem Zcp.snd {plan_0:Zbi} {seconds_1:Int} {r:Int} (h:Zcp N plan_0 seconds_1=some r):SndQ Tryz.prog 103 [.agg plan_0.ls,oI seconds_1] (Zcp.rs r):=fun st=>
 sO Zcp.B Tryz.func103 fun g0 w0 R hE=>by
  unfold Zcp at h
  obtain ⟨x1,c1,h1⟩:=Zae h
  have t1 {Q:Prop} (q:Q):=aI (Zcy.snd c1) q
  refine iteB h1 (fun c2 h2=>?_) (fun c2 h3=>?_)
  ·obtain rfl:=Zad h2
   exact af fol hE [.r [],.r [(1,q1 [oB x1]),(4,wF),(5,wF)],.c true,.r []] [] 0 [] (t1 (aK (not_false (Zbh c2)) (not_false (Zbh c2)) (not_false (Zbh c2)) eT))
  ·let o1:List PS:=[.r [],.r [(1,q1 [oB x1]),(6,yF)]]
   have t2 {Q:Prop} (q:Q):=t1 (aK (not_true (Zbe c2)) (not_true (Zbe c2)) (not_true (Zbe c2)) q)
   refine iteB h3 (fun c3 h4=>?_) (fun c3 h5=>?_)
   ·obtain rfl:=Zad h4
    exact af fol hE (o1 ++ [.c true,.r []]) [] 0 [] (t2 c3)
   ·obtain ⟨c4,h6⟩:=ZaO h5
    obtain rfl:=Zad h6
    exact af fol hE (o1 ++ [.c false,.r []]) [] 0 [] (t2 (aI c3 c4))
noncomputable def ZcC.B:Code:=Tryz.f102.body.getD .skip
noncomputable def ZcC.rs (r:(Option Nat)×Int×LL):List CV:=[.one (L.ptr r.1),oI r.2.1]
noncomputable def ZcC (N:Nat) (p_0:Zai) (from_1:Zdn) (plan_2:Zbi) (size_3 now_4:Int) (st:LL):Option ((Option Nat)×Int×LL):=
 optE (ZdH N plan_2 st) fun (x1,x2,st3)=>
 if (x2 != 0)=true then
  some (none,1,st3)
 else
 if (decide (size_3<1))=true then
  some (none,1,st3)
 else
 if (decide (size_3>64))=true then
  some (none,1,st3)
 else
 if (decide (now_4<0))=true then
  some (none,1,st3)
 else
 if (decide (now_4>4294967296))=true then
  some (none,1,st3)
 else
 optE (ZbA N p_0) fun x4=>
 if (!x4)=true then
  some (none,1,st3)
 else
 chk (List.length ([]++p_0.Gates)*16≤140737488355328)<|
 chk (List.length ([]++p_0.Checks)*40≤140737488355328)<|
 chk (List.length ([]++from_1.Spot.Times)*8≤140737488355328)<|
 optE (Zdv N from_1.Spot.Times) fun x5=>
 optE (Zcp N plan_2 (if (0:Int)>(w64 ((w64 (now_4+p_0.Future))-x5)) then 0 else (w64 ((w64 (now_4+p_0.Future))-x5)))) fun x6=>
 some ((some (List.length st3)),0,List.set (List.set (List.set (st3 ++ [[L.int .i64 p_0.Limit,L.int .i64 p_0.Interval,L.int .i64 p_0.Spacing,L.int .i64 p_0.Future,L.bool p_0.Easy,L.sl 2 ([]++p_0.Gates),L.sl 33 ([]++p_0.Checks),L.arr .u64 4 p_0.MinWork,L.arr .u64 4 p_0.Margin,L.int .i64 p_0.Genesis.Version,L.arr .u8 32 p_0.Genesis.Prev,L.arr .u8 32 p_0.Genesis.Root,L.int .i64 p_0.Genesis.Time,L.int .i64 p_0.Genesis.Bits,L.int .i64 p_0.Genesis.Nonce,L.int .i64 from_1.Spot.Point.Height,L.int .i64 from_1.Spot.Point.Bits,L.int .i64 from_1.Spot.Point.Time,L.int .i64 from_1.Spot.Point.First,L.int .i64 from_1.Spot.Point.Hard,L.arr .u8 32 from_1.Spot.Prev,L.sl 1 from_1.Spot.Times,L.arr .u64 4 from_1.Work,L.int .i64 0,L.int .i64 0,L.int .i64 0,L.int .i64 0,L.int .i64 0,L.arr .u8 32 (List.replicate 32 0),L.sl 1 [],L.arr .u64 4 (List.replicate 4 0),L.ptr x1,L.int .i64 1,L.int .i64 0,L.int .i64 size_3,L.own true 68 []]]) (List.length st3) [L.int .i64 p_0.Limit,L.int .i64 p_0.Interval,L.int .i64 p_0.Spacing,L.int .i64 p_0.Future,L.bool p_0.Easy,L.sl 2 ([]++p_0.Gates),L.sl 33 ([]++p_0.Checks),L.arr .u64 4 p_0.MinWork,L.arr .u64 4 p_0.Margin,L.int .i64 p_0.Genesis.Version,L.arr .u8 32 p_0.Genesis.Prev,L.arr .u8 32 p_0.Genesis.Root,L.int .i64 p_0.Genesis.Time,L.int .i64 p_0.Genesis.Bits,L.int .i64 p_0.Genesis.Nonce,L.int .i64 from_1.Spot.Point.Height,L.int .i64 from_1.Spot.Point.Bits,L.int .i64 from_1.Spot.Point.Time,L.int .i64 from_1.Spot.Point.First,L.int .i64 from_1.Spot.Point.Hard,L.arr .u8 32 from_1.Spot.Prev,L.sl 1 ([]++from_1.Spot.Times),L.arr .u64 4 from_1.Work,L.int .i64 0,L.int .i64 0,L.int .i64 0,L.int .i64 0,L.int .i64 0,L.arr .u8 32 (List.replicate 32 0),L.sl 1 [],L.arr .u64 4 (List.replicate 4 0),L.ptr x1,L.int .i64 1,L.int .i64 0,L.int .i64 size_3,L.own true 68 []]) (List.length st3) [L.int .i64 p_0.Limit,L.int .i64 p_0.Interval,L.int .i64 p_0.Spacing,L.int .i64 p_0.Future,L.bool p_0.Easy,L.sl 2 ([]++p_0.Gates),L.sl 33 ([]++p_0.Checks),L.arr .u64 4 p_0.MinWork,L.arr .u64 4 p_0.Margin,L.int .i64 p_0.Genesis.Version,L.arr .u8 32 p_0.Genesis.Prev,L.arr .u8 32 p_0.Genesis.Root,L.int .i64 p_0.Genesis.Time,L.int .i64 p_0.Genesis.Bits,L.int .i64 p_0.Genesis.Nonce,L.int .i64 from_1.Spot.Point.Height,L.int .i64 from_1.Spot.Point.Bits,L.int .i64 from_1.Spot.Point.Time,L.int .i64 from_1.Spot.Point.First,L.int .i64 from_1.Spot.Point.Hard,L.arr .u8 32 from_1.Spot.Prev,L.sl 1 ([]++from_1.Spot.Times),L.arr .u64 4 from_1.Work,L.int .i64 from_1.Spot.Point.Height,L.int .i64 from_1.Spot.Point.Bits,L.int .i64 from_1.Spot.Point.Time,L.int .i64 from_1.Spot.Point.First,L.int .i64 from_1.Spot.Point.Hard,L.arr .u8 32 from_1.Spot.Prev,L.sl 1 ([]++from_1.Spot.Times),L.arr .u64 4 from_1.Work,L.ptr x1,L.int .i64 1,L.int .i64 0,L.int .i64 size_3,L.own true 68 []]) (List.length st3) [L.int .i64 p_0.Limit,L.int .i64 p_0.Interval,L.int .i64 p_0.Spacing,L.int .i64 p_0.Future,L.bool p_0.Easy,L.sl 2 ([]++p_0.Gates),L.sl 33 ([]++p_0.Checks),L.arr .u64 4 p_0.MinWork,L.arr .u64 4 p_0.Margin,L.int .i64 p_0.Genesis.Version,L.arr .u8 32 p_0.Genesis.Prev,L.arr .u8 32 p_0.Genesis.Root,L.int .i64 p_0.Genesis.Time,L.int .i64 p_0.Genesis.Bits,L.int .i64 p_0.Genesis.Nonce,L.int .i64 from_1.Spot.Point.Height,L.int .i64 from_1.Spot.Point.Bits,L.int .i64 from_1.Spot.Point.Time,L.int .i64 from_1.Spot.Point.First,L.int .i64 from_1.Spot.Point.Hard,L.arr .u8 32 from_1.Spot.Prev,L.sl 1 ([]++from_1.Spot.Times),L.arr .u64 4 from_1.Work,L.int .i64 from_1.Spot.Point.Height,L.int .i64 from_1.Spot.Point.Bits,L.int .i64 from_1.Spot.Point.Time,L.int .i64 from_1.Spot.Point.First,L.int .i64 from_1.Spot.Point.Hard,L.arr .u8 32 from_1.Spot.Prev,L.sl 1 ([]++from_1.Spot.Times),L.arr .u64 4 from_1.Work,L.ptr x1,L.int .i64 1,L.int .i64 x6,L.int .i64 size_3,L.own true 68 []])
theorem ZcC.snd {p_0:Zai} {from_1:Zdn} {plan_2:Zbi} {size_3 now_4:Int} {st:LL} {r:(Option Nat)×Int×LL} (h:ZcC N p_0 from_1 plan_2 size_3 now_4 st=some r):Snd Tryz.prog 102 [.agg p_0.ls,.agg from_1.ls,.agg plan_2.ls,oI size_3,oI now_4] st (ZcC.rs r) r.2.2:=
 sO ZcC.B Tryz.func102 fun g0 w0 R hE=>by
  unfold ZcC at h
  obtain ⟨⟨x1,x2,st3⟩,c1,h1⟩:=Zae h
  let o1:List PS:=[.r [],.r [(1,{rs:=[.one (L.ptr x1),oI x2],st:=st3})]]
  have t1 {Q:Prop} (q:Q):=aI (ZdH.snd c1) q
  refine iteB h1 (fun c2 h2=>?_) (fun c2 h3=>?_)
  ·obtain rfl:=Zad h2
   exact af fol hE (o1 ++ [.r [(3,wF),(4,wF),(7,wF),(8,wF),(11,wF),(12,wF),(15,wF),(16,wF),(19,wF),(20,wF),(21,wF)],.c true,.r []]) [] 0 [] (t1 (aO c2 c2 c2 eT eT eT eT (aO eT eT eT eT eT eT eT (aJ eT eT eT))))
  ·have t2 {Q:Prop} (q:Q):=t1 (aK c2 c2 c2 q)
   refine iteB h3 (fun c3 h4=>?_) (fun c3 h5=>?_)
   ·obtain rfl:=Zad h4
    exact af fol hE (o1 ++ [.r [(5,yF),(7,wF),(8,wF),(11,wF),(12,wF),(15,wF),(16,wF),(19,wF),(20,wF),(21,wF)],.c true,.r []]) [] 0 [] (t2 (aO c3 c3 c3 eT eT eT eT (aN eT eT eT eT eT eT eT)))
   ·have t3 {Q:Prop} (q:Q):=t2 (aK c3 c3 c3 q)
    refine iteB h5 (fun c4 h6=>?_) (fun c4 h7=>?_)
    ·obtain rfl:=Zad h6
     exact af fol hE (o1 ++ [.r [(5,yF),(9,yF),(11,wF),(12,wF),(15,wF),(16,wF),(19,wF),(20,wF),(21,wF)],.c true,.r []]) [] 0 [] (t3 (aO c4 c4 c4 eT eT eT eT (aK eT eT eT eT)))
    ·refine iteB h7 (fun c5 h8=>?_) (fun c5 h9=>?_)
     ·obtain rfl:=Zad h8
      exact af fol hE (o1 ++ [.r [(5,yF),(9,yF),(13,yF),(15,wF),(16,wF),(19,wF),(20,wF),(21,wF)],.c true,.r []]) [] 0 [] (t3 (aO c4 c4 c4 c5 c5 c5 eT (aK eT eT eT eT)))
     ·have t4 {Q:Prop} (q:Q):=t3 (aN c4 c4 c4 c5 c5 c5 q)
      refine iteB h9 (fun c6 h10=>?_) (fun c6 h11=>?_)
      ·obtain rfl:=Zad h10
       exact af fol hE (o1 ++ [.r [(5,yF),(9,yF),(13,yF),(17,yF),(19,wF),(20,wF),(21,wF)],.c true,.r []]) [] 0 [] (t4 (aL c6 c6 c6 c6 eT))
      ·obtain ⟨x4,c7,h12⟩:=Zae h11
       let o2:List PS:=o1 ++ [.r [(5,yF),(9,yF),(13,yF),(17,yF),(20,q1 [oB x4]),(22,yF)]]
       refine iteB h12 (fun c8 h13=>?_) (fun c8 h14=>?_)
       ·obtain rfl:=Zad h13
        exact af fol hE (o2 ++ [.c true,.r []]) [] 0 [] (t4 (aM c6 c6 (ZbA.snd c7) c6 c6 c8))
       ·obtain ⟨c9,c10,c11,h15⟩:=ck3 h14
        obtain ⟨x5,c12,h16⟩:=Zae h15
        obtain ⟨x6,c13,h17⟩:=Zae h16
        obtain rfl:=Zad h17
        exact afd fol hE (o2 ++ [.c false,.d {ds:=[(7,{fz:=[45]}),(9,{fz:=[48]})],hv:=676,Hs:=[4,36,164,676]},.r [(8,{ns:=[35]}),(9,{m:=1})],.r [(9,{oc:=[L.int .i64 p_0.Limit,L.int .i64 p_0.Interval,L.int .i64 p_0.Spacing,L.int .i64 p_0.Future,L.bool p_0.Easy,L.sl 2 ([]++p_0.Gates),L.sl 33 ([]++p_0.Checks),L.arr .u64 4 p_0.MinWork,L.arr .u64 4 p_0.Margin,L.int .i64 p_0.Genesis.Version,L.arr .u8 32 p_0.Genesis.Prev,L.arr .u8 32 p_0.Genesis.Root,L.int .i64 p_0.Genesis.Time,L.int .i64 p_0.Genesis.Bits,L.int .i64 p_0.Genesis.Nonce,L.int .i64 from_1.Spot.Point.Height,L.int .i64 from_1.Spot.Point.Bits,L.int .i64 from_1.Spot.Point.Time,L.int .i64 from_1.Spot.Point.First,L.int .i64 from_1.Spot.Point.Hard,L.arr .u8 32 from_1.Spot.Prev,L.sl 1 from_1.Spot.Times,L.arr .u64 4 from_1.Work,L.int .i64 0,L.int .i64 0,L.int .i64 0,L.int .i64 0,L.int .i64 0,L.arr .u8 32 (List.replicate 32 0),L.sl 1 [],L.arr .u64 4 (List.replicate 4 0),L.ptr x1,L.int .i64 1,L.int .i64 0,L.int .i64 size_3,L.own true 68 []],fz:=[65]})],.r [(4,{oc:=[L.int .i64 p_0.Limit,L.int .i64 p_0.Interval,L.int .i64 p_0.Spacing,L.int .i64 p_0.Future,L.bool p_0.Easy,L.sl 2 ([]++p_0.Gates),L.sl 33 ([]++p_0.Checks),L.arr .u64 4 p_0.MinWork,L.arr .u64 4 p_0.Margin,L.int .i64 p_0.Genesis.Version,L.arr .u8 32 p_0.Genesis.Prev,L.arr .u8 32 p_0.Genesis.Root,L.int .i64 p_0.Genesis.Time,L.int .i64 p_0.Genesis.Bits,L.int .i64 p_0.Genesis.Nonce,L.int .i64 from_1.Spot.Point.Height,L.int .i64 from_1.Spot.Point.Bits,L.int .i64 from_1.Spot.Point.Time,L.int .i64 from_1.Spot.Point.First,L.int .i64 from_1.Spot.Point.Hard,L.arr .u8 32 from_1.Spot.Prev,L.sl 1 ([]++from_1.Spot.Times),L.arr .u64 4 from_1.Work,L.int .i64 0,L.int .i64 0,L.int .i64 0,L.int .i64 0,L.int .i64 0,L.arr .u8 32 (List.replicate 32 0),L.sl 1 [],L.arr .u64 4 (List.replicate 4 0),L.ptr x1,L.int .i64 1,L.int .i64 0,L.int .i64 size_3,L.own true 68 []]}),(7,{oc:=[L.int .i64 p_0.Limit,L.int .i64 p_0.Interval,L.int .i64 p_0.Spacing,L.int .i64 p_0.Future,L.bool p_0.Easy,L.sl 2 ([]++p_0.Gates),L.sl 33 ([]++p_0.Checks),L.arr .u64 4 p_0.MinWork,L.arr .u64 4 p_0.Margin,L.int .i64 p_0.Genesis.Version,L.arr .u8 32 p_0.Genesis.Prev,L.arr .u8 32 p_0.Genesis.Root,L.int .i64 p_0.Genesis.Time,L.int .i64 p_0.Genesis.Bits,L.int .i64 p_0.Genesis.Nonce,L.int .i64 from_1.Spot.Point.Height,L.int .i64 from_1.Spot.Point.Bits,L.int .i64 from_1.Spot.Point.Time,L.int .i64 from_1.Spot.Point.First,L.int .i64 from_1.Spot.Point.Hard,L.arr .u8 32 from_1.Spot.Prev,L.sl 1 ([]++from_1.Spot.Times),L.arr .u64 4 from_1.Work,L.int .i64 0,L.int .i64 0,L.int .i64 0,L.int .i64 0,L.int .i64 0,L.arr .u8 32 (List.replicate 32 0),L.sl 1 [],L.arr .u64 4 (List.replicate 4 0),L.ptr x1,L.int .i64 1,L.int .i64 0,L.int .i64 size_3,L.own true 68 []]})],.d {ds:=[(9,q1 [oI x5]),(12,q1 [oI x6]),(15,{oc:=[L.int .i64 p_0.Limit,L.int .i64 p_0.Interval,L.int .i64 p_0.Spacing,L.int .i64 p_0.Future,L.bool p_0.Easy,L.sl 2 ([]++p_0.Gates),L.sl 33 ([]++p_0.Checks),L.arr .u64 4 p_0.MinWork,L.arr .u64 4 p_0.Margin,L.int .i64 p_0.Genesis.Version,L.arr .u8 32 p_0.Genesis.Prev,L.arr .u8 32 p_0.Genesis.Root,L.int .i64 p_0.Genesis.Time,L.int .i64 p_0.Genesis.Bits,L.int .i64 p_0.Genesis.Nonce,L.int .i64 from_1.Spot.Point.Height,L.int .i64 from_1.Spot.Point.Bits,L.int .i64 from_1.Spot.Point.Time,L.int .i64 from_1.Spot.Point.First,L.int .i64 from_1.Spot.Point.Hard,L.arr .u8 32 from_1.Spot.Prev,L.sl 1 ([]++from_1.Spot.Times),L.arr .u64 4 from_1.Work,L.int .i64 from_1.Spot.Point.Height,L.int .i64 from_1.Spot.Point.Bits,L.int .i64 from_1.Spot.Point.Time,L.int .i64 from_1.Spot.Point.First,L.int .i64 from_1.Spot.Point.Hard,L.arr .u8 32 from_1.Spot.Prev,L.sl 1 ([]++from_1.Spot.Times),L.arr .u64 4 from_1.Work,L.ptr x1,L.int .i64 1,L.int .i64 0,L.int .i64 size_3,L.own true 68 []]})],hv:=32768,Hs:=[32768]},.r []]) [] 0 [] (t4 (aO c6 c6 (ZbA.snd c7) c6 c6 c8 c9 (aO c10 z0 (eN (List.length ([]++p_0.Gates))) z0 (eN (List.length ([]++p_0.Checks))) c11 (ZkV st3 [L.int .i64 p_0.Limit,L.int .i64 p_0.Interval,L.int .i64 p_0.Spacing,L.int .i64 p_0.Future,L.bool p_0.Easy,L.sl 2 ([]++p_0.Gates),L.sl 33 ([]++p_0.Checks),L.arr .u64 4 p_0.MinWork,L.arr .u64 4 p_0.Margin,L.int .i64 p_0.Genesis.Version,L.arr .u8 32 p_0.Genesis.Prev,L.arr .u8 32 p_0.Genesis.Root,L.int .i64 p_0.Genesis.Time,L.int .i64 p_0.Genesis.Bits,L.int .i64 p_0.Genesis.Nonce,L.int .i64 from_1.Spot.Point.Height,L.int .i64 from_1.Spot.Point.Bits,L.int .i64 from_1.Spot.Point.Time,L.int .i64 from_1.Spot.Point.First,L.int .i64 from_1.Spot.Point.Hard,L.arr .u8 32 from_1.Spot.Prev,L.sl 1 from_1.Spot.Times,L.arr .u64 4 from_1.Work,L.int .i64 0,L.int .i64 0,L.int .i64 0,L.int .i64 0,L.int .i64 0,L.arr .u8 32 (List.replicate 32 0),L.sl 1 [],L.arr .u64 4 (List.replicate 4 0),L.ptr x1,L.int .i64 1,L.int .i64 0,L.int .i64 size_3,L.own true 68 []]) (aN z0 (eN (List.length ([]++from_1.Spot.Times))) (Zci (ZkV st3 [L.int .i64 p_0.Limit,L.int .i64 p_0.Interval,L.int .i64 p_0.Spacing,L.int .i64 p_0.Future,L.bool p_0.Easy,L.sl 2 ([]++p_0.Gates),L.sl 33 ([]++p_0.Checks),L.arr .u64 4 p_0.MinWork,L.arr .u64 4 p_0.Margin,L.int .i64 p_0.Genesis.Version,L.arr .u8 32 p_0.Genesis.Prev,L.arr .u8 32 p_0.Genesis.Root,L.int .i64 p_0.Genesis.Time,L.int .i64 p_0.Genesis.Bits,L.int .i64 p_0.Genesis.Nonce,L.int .i64 from_1.Spot.Point.Height,L.int .i64 from_1.Spot.Point.Bits,L.int .i64 from_1.Spot.Point.Time,L.int .i64 from_1.Spot.Point.First,L.int .i64 from_1.Spot.Point.Hard,L.arr .u8 32 from_1.Spot.Prev,L.sl 1 from_1.Spot.Times,L.arr .u64 4 from_1.Work,L.int .i64 0,L.int .i64 0,L.int .i64 0,L.int .i64 0,L.int .i64 0,L.arr .u8 32 (List.replicate 32 0),L.sl 1 [],L.arr .u64 4 (List.replicate 4 0),L.ptr x1,L.int .i64 1,L.int .i64 0,L.int .i64 size_3,L.own true 68 []]) [L.int .i64 p_0.Limit,L.int .i64 p_0.Interval,L.int .i64 p_0.Spacing,L.int .i64 p_0.Future,L.bool p_0.Easy,L.sl 2 ([]++p_0.Gates),L.sl 33 ([]++p_0.Checks),L.arr .u64 4 p_0.MinWork,L.arr .u64 4 p_0.Margin,L.int .i64 p_0.Genesis.Version,L.arr .u8 32 p_0.Genesis.Prev,L.arr .u8 32 p_0.Genesis.Root,L.int .i64 p_0.Genesis.Time,L.int .i64 p_0.Genesis.Bits,L.int .i64 p_0.Genesis.Nonce,L.int .i64 from_1.Spot.Point.Height,L.int .i64 from_1.Spot.Point.Bits,L.int .i64 from_1.Spot.Point.Time,L.int .i64 from_1.Spot.Point.First,L.int .i64 from_1.Spot.Point.Hard,L.arr .u8 32 from_1.Spot.Prev,L.sl 1 ([]++from_1.Spot.Times),L.arr .u64 4 from_1.Work,L.int .i64 0,L.int .i64 0,L.int .i64 0,L.int .i64 0,L.int .i64 0,L.arr .u8 32 (List.replicate 32 0),L.sl 1 [],L.arr .u64 4 (List.replicate 4 0),L.ptr x1,L.int .i64 1,L.int .i64 0,L.int .i64 size_3,L.own true 68 []]) (Zci (ZkV st3 [L.int .i64 p_0.Limit,L.int .i64 p_0.Interval,L.int .i64 p_0.Spacing,L.int .i64 p_0.Future,L.bool p_0.Easy,L.sl 2 ([]++p_0.Gates),L.sl 33 ([]++p_0.Checks),L.arr .u64 4 p_0.MinWork,L.arr .u64 4 p_0.Margin,L.int .i64 p_0.Genesis.Version,L.arr .u8 32 p_0.Genesis.Prev,L.arr .u8 32 p_0.Genesis.Root,L.int .i64 p_0.Genesis.Time,L.int .i64 p_0.Genesis.Bits,L.int .i64 p_0.Genesis.Nonce,L.int .i64 from_1.Spot.Point.Height,L.int .i64 from_1.Spot.Point.Bits,L.int .i64 from_1.Spot.Point.Time,L.int .i64 from_1.Spot.Point.First,L.int .i64 from_1.Spot.Point.Hard,L.arr .u8 32 from_1.Spot.Prev,L.sl 1 from_1.Spot.Times,L.arr .u64 4 from_1.Work,L.int .i64 0,L.int .i64 0,L.int .i64 0,L.int .i64 0,L.int .i64 0,L.arr .u8 32 (List.replicate 32 0),L.sl 1 [],L.arr .u64 4 (List.replicate 4 0),L.ptr x1,L.int .i64 1,L.int .i64 0,L.int .i64 size_3,L.own true 68 []]) [L.int .i64 p_0.Limit,L.int .i64 p_0.Interval,L.int .i64 p_0.Spacing,L.int .i64 p_0.Future,L.bool p_0.Easy,L.sl 2 ([]++p_0.Gates),L.sl 33 ([]++p_0.Checks),L.arr .u64 4 p_0.MinWork,L.arr .u64 4 p_0.Margin,L.int .i64 p_0.Genesis.Version,L.arr .u8 32 p_0.Genesis.Prev,L.arr .u8 32 p_0.Genesis.Root,L.int .i64 p_0.Genesis.Time,L.int .i64 p_0.Genesis.Bits,L.int .i64 p_0.Genesis.Nonce,L.int .i64 from_1.Spot.Point.Height,L.int .i64 from_1.Spot.Point.Bits,L.int .i64 from_1.Spot.Point.Time,L.int .i64 from_1.Spot.Point.First,L.int .i64 from_1.Spot.Point.Hard,L.arr .u8 32 from_1.Spot.Prev,L.sl 1 ([]++from_1.Spot.Times),L.arr .u64 4 from_1.Work,L.int .i64 0,L.int .i64 0,L.int .i64 0,L.int .i64 0,L.int .i64 0,L.arr .u8 32 (List.replicate 32 0),L.sl 1 [],L.arr .u64 4 (List.replicate 4 0),L.ptr x1,L.int .i64 1,L.int .i64 0,L.int .i64 size_3,L.own true 68 []]) (Zdv.snd c12) (Zcp.snd c13) (Zci (Zci (ZkV st3 [L.int .i64 p_0.Limit,L.int .i64 p_0.Interval,L.int .i64 p_0.Spacing,L.int .i64 p_0.Future,L.bool p_0.Easy,L.sl 2 ([]++p_0.Gates),L.sl 33 ([]++p_0.Checks),L.arr .u64 4 p_0.MinWork,L.arr .u64 4 p_0.Margin,L.int .i64 p_0.Genesis.Version,L.arr .u8 32 p_0.Genesis.Prev,L.arr .u8 32 p_0.Genesis.Root,L.int .i64 p_0.Genesis.Time,L.int .i64 p_0.Genesis.Bits,L.int .i64 p_0.Genesis.Nonce,L.int .i64 from_1.Spot.Point.Height,L.int .i64 from_1.Spot.Point.Bits,L.int .i64 from_1.Spot.Point.Time,L.int .i64 from_1.Spot.Point.First,L.int .i64 from_1.Spot.Point.Hard,L.arr .u8 32 from_1.Spot.Prev,L.sl 1 from_1.Spot.Times,L.arr .u64 4 from_1.Work,L.int .i64 0,L.int .i64 0,L.int .i64 0,L.int .i64 0,L.int .i64 0,L.arr .u8 32 (List.replicate 32 0),L.sl 1 [],L.arr .u64 4 (List.replicate 4 0),L.ptr x1,L.int .i64 1,L.int .i64 0,L.int .i64 size_3,L.own true 68 []]) [L.int .i64 p_0.Limit,L.int .i64 p_0.Interval,L.int .i64 p_0.Spacing,L.int .i64 p_0.Future,L.bool p_0.Easy,L.sl 2 ([]++p_0.Gates),L.sl 33 ([]++p_0.Checks),L.arr .u64 4 p_0.MinWork,L.arr .u64 4 p_0.Margin,L.int .i64 p_0.Genesis.Version,L.arr .u8 32 p_0.Genesis.Prev,L.arr .u8 32 p_0.Genesis.Root,L.int .i64 p_0.Genesis.Time,L.int .i64 p_0.Genesis.Bits,L.int .i64 p_0.Genesis.Nonce,L.int .i64 from_1.Spot.Point.Height,L.int .i64 from_1.Spot.Point.Bits,L.int .i64 from_1.Spot.Point.Time,L.int .i64 from_1.Spot.Point.First,L.int .i64 from_1.Spot.Point.Hard,L.arr .u8 32 from_1.Spot.Prev,L.sl 1 ([]++from_1.Spot.Times),L.arr .u64 4 from_1.Work,L.int .i64 0,L.int .i64 0,L.int .i64 0,L.int .i64 0,L.int .i64 0,L.arr .u8 32 (List.replicate 32 0),L.sl 1 [],L.arr .u64 4 (List.replicate 4 0),L.ptr x1,L.int .i64 1,L.int .i64 0,L.int .i64 size_3,L.own true 68 []]) [L.int .i64 p_0.Limit,L.int .i64 p_0.Interval,L.int .i64 p_0.Spacing,L.int .i64 p_0.Future,L.bool p_0.Easy,L.sl 2 ([]++p_0.Gates),L.sl 33 ([]++p_0.Checks),L.arr .u64 4 p_0.MinWork,L.arr .u64 4 p_0.Margin,L.int .i64 p_0.Genesis.Version,L.arr .u8 32 p_0.Genesis.Prev,L.arr .u8 32 p_0.Genesis.Root,L.int .i64 p_0.Genesis.Time,L.int .i64 p_0.Genesis.Bits,L.int .i64 p_0.Genesis.Nonce,L.int .i64 from_1.Spot.Point.Height,L.int .i64 from_1.Spot.Point.Bits,L.int .i64 from_1.Spot.Point.Time,L.int .i64 from_1.Spot.Point.First,L.int .i64 from_1.Spot.Point.Hard,L.arr .u8 32 from_1.Spot.Prev,L.sl 1 ([]++from_1.Spot.Times),L.arr .u64 4 from_1.Work,L.int .i64 from_1.Spot.Point.Height,L.int .i64 from_1.Spot.Point.Bits,L.int .i64 from_1.Spot.Point.Time,L.int .i64 from_1.Spot.Point.First,L.int .i64 from_1.Spot.Point.Hard,L.arr .u8 32 from_1.Spot.Prev,L.sl 1 ([]++from_1.Spot.Times),L.arr .u64 4 from_1.Work,L.ptr x1,L.int .i64 1,L.int .i64 0,L.int .i64 size_3,L.own true 68 []])))))
noncomputable def ZdO.B:Code:=Tryz.f213.body.getD .skip
noncomputable def ZdO.rs (r:Int):List CV:=[oI r]
noncomputable def ZdO (N:Nat) (p_0:Zai) (from_1 to_2:Int):Option Int:=
 some (if (w64 ((w64 (p_0.Interval*p_0.Spacing))*4))<(if (w64 (Int.tdiv (w64 (p_0.Interval*p_0.Spacing)) 4))>(w64 (to_2-from_1)) then (w64 (Int.tdiv (w64 (p_0.Interval*p_0.Spacing)) 4)) else (w64 (to_2-from_1))) then (w64 ((w64 (p_0.Interval*p_0.Spacing))*4)) else (if (w64 (Int.tdiv (w64 (p_0.Interval*p_0.Spacing)) 4))>(w64 (to_2-from_1)) then (w64 (Int.tdiv (w64 (p_0.Interval*p_0.Spacing)) 4)) else (w64 (to_2-from_1))))
theorem ZdO.snd {p_0:Zai} {from_1 to_2:Int} {r:Int} (h:ZdO N p_0 from_1 to_2=some r):SndQ Tryz.prog 213 [.agg p_0.ls,oI from_1,oI to_2] (ZdO.rs r):=fun st=>
 sO ZdO.B Tryz.func213 fun g0 w0 R hE=>by
  unfold ZdO at h
  obtain rfl:=Zad h
  exact af fol hE [.r [],.r [],.r []] [] 0 [] (neI 4)
noncomputable def Zav.B:Code:=Tryz.f222.body.getD .skip
noncomputable def Zav.rs (r:Int):List CV:=[oI r]
noncomputable def Zav.p3 (N:Nat) (x_5 n_6:Int):Option Int:=
 chk (0≤(v8 (x_5)))<|
 chk ((v8 (x_5))<((ByteArray.size (ByteArray.mk #[0,1,2,2,3,3,3,3,4,4,4,4,4,4,4,4,5,5,5,5,5,5,5,5,5,5,5,5,5,5,5,5,6,6,6,6,6,6,6,6,6,6,6,6,6,6,6,6,6,6,6,6,6,6,6,6,6,6,6,6,6,6,6,6,7,7,7,7,7,7,7,7,7,7,7,7,7,7,7,7,7,7,7,7,7,7,7,7,7,7,7,7,7,7,7,7,7,7,7,7,7,7,7,7,7,7,7,7,7,7,7,7,7,7,7,7,7,7,7,7,7,7,7,7,7,7,7,7,8,8,8,8,8,8,8,8,8,8,8,8,8,8,8,8,8,8,8,8,8,8,8,8,8,8,8,8,8,8,8,8,8,8,8,8,8,8,8,8,8,8,8,8,8,8,8,8,8,8,8,8,8,8,8,8,8,8,8,8,8,8,8,8,8,8,8,8,8,8,8,8,8,8,8,8,8,8,8,8,8,8,8,8,8,8,8,8,8,8,8,8,8,8,8,8,8,8,8,8,8,8,8,8,8,8,8,8,8,8,8,8,8,8,8,8,8,8,8,8,8,8,8,8,8,8,8,8]):Nat):Int))<|
 some (w64 (n_6+(w64 (((UInt8.toNat (List.getD (Array.toList (ByteArray.data (ByteArray.mk #[0,1,2,2,3,3,3,3,4,4,4,4,4,4,4,4,5,5,5,5,5,5,5,5,5,5,5,5,5,5,5,5,6,6,6,6,6,6,6,6,6,6,6,6,6,6,6,6,6,6,6,6,6,6,6,6,6,6,6,6,6,6,6,6,7,7,7,7,7,7,7,7,7,7,7,7,7,7,7,7,7,7,7,7,7,7,7,7,7,7,7,7,7,7,7,7,7,7,7,7,7,7,7,7,7,7,7,7,7,7,7,7,7,7,7,7,7,7,7,7,7,7,7,7,7,7,7,7,8,8,8,8,8,8,8,8,8,8,8,8,8,8,8,8,8,8,8,8,8,8,8,8,8,8,8,8,8,8,8,8,8,8,8,8,8,8,8,8,8,8,8,8,8,8,8,8,8,8,8,8,8,8,8,8,8,8,8,8,8,8,8,8,8,8,8,8,8,8,8,8,8,8,8,8,8,8,8,8,8,8,8,8,8,8,8,8,8,8,8,8,8,8,8,8,8,8,8,8,8,8,8,8,8,8,8,8,8,8,8,8,8,8,8,8,8,8,8,8,8,8,8,8,8,8,8,8]))) (Int.toNat (v8 (x_5))) 0):Nat):Int)))))
noncomputable def Zav.p2 (N:Nat) (x_3 n_4:Int):Option Int:=
 if (decide (x_3≥256))=true then
  Zav.p3 N (shrOf .u64 x_3 8) (w64 (n_4+8))
 else
 Zav.p3 N x_3 n_4
noncomputable def Zav.p1 (N:Nat) (x_1 n_2:Int):Option Int:=
 if (decide (x_1≥65536))=true then
  Zav.p2 N (shrOf .u64 x_1 16) (w64 (n_2+16))
 else
 Zav.p2 N x_1 n_2
noncomputable def Zav (N:Nat) (x_0:Int):Option Int:=
 if (decide (x_0≥4294967296))=true then
  Zav.p1 N (shrOf .u64 x_0 32) 32
 else
 Zav.p1 N x_0 0
noncomputable def Zav.p3.S (x_5 n_6:Int) (st:LL):S:=mkS 25 [(0,.one (.l (L.int .u64 x_5))),(2,sI n_6)] [] st
noncomputable def Zav.p2.S (x_3 n_4:Int) (st:LL):S:=mkS 25 [(0,.one (.l (L.int .u64 x_3))),(2,sI n_4)] [] st
noncomputable def Zav.p1.S (x_1 n_2:Int) (st:LL):S:=mkS 25 [(0,.one (.l (L.int .u64 x_1))),(2,sI n_2)] [] st
theorem Zav.p3_ok {x_5 n_6 st r} (h:Zav.p3 N x_5 n_6=some r) (hE:En Tryz.f222 g0 w0 (Zav.rs r) st R):At g0 w0 (Zav.p3.S x_5 n_6 st) (XK Tryz.prog R [.c (csub Zav.B [1,1,1,1])]):=by
 unfold Zav.p3 at h
 obtain ⟨c4,c5,h1⟩:=ck2 h
 obtain rfl:=Zad h1
 exact af fol hE [.r []] [] 0 [] (aI c4 c5)
theorem Zav.p2_ok {x_3 n_4 st r} (h:Zav.p2 N x_3 n_4=some r) (hE:En Tryz.f222 g0 w0 (Zav.rs r) st R):At g0 w0 (Zav.p2.S x_3 n_4 st) (XK Tryz.prog R [.c (csub Zav.B [1,1,1])]):=by
 unfold Zav.p2 at h
 refine iteB h (fun c3 h2=>?_) (fun c3 h3=>?_)
 ·exact aq fol [.r [],.c true,.r [],.r [],.s 1] [0,2] [] (aI c3 (leI 0 8)) (Zav.p3_ok h2 hE)
 ·exact aq fol [.r [],.c false,.s 1] [0,2] [] c3 (Zav.p3_ok h3 hE)
theorem Zav.p1_ok {x_1 n_2 st r} (h:Zav.p1 N x_1 n_2=some r) (hE:En Tryz.f222 g0 w0 (Zav.rs r) st R):At g0 w0 (Zav.p1.S x_1 n_2 st) (XK Tryz.prog R [.c (csub Zav.B [1,1])]):=by
 unfold Zav.p1 at h
 refine iteB h (fun c2 h4=>?_) (fun c2 h5=>?_)
 ·exact aq fol [.r [],.c true,.r [],.r [],.s 1] [0,2] [] (aI c2 (leI 0 16)) (Zav.p2_ok h4 hE)
 ·exact aq fol [.r [],.c false,.s 1] [0,2] [] c2 (Zav.p2_ok h5 hE)
theorem Zav.snd {x_0:Int} {r:Int} (h:Zav N x_0=some r):SndQ Tryz.prog 222 [.one (L.int .u64 x_0)] (Zav.rs r):=fun st=>
 sO Zav.B Tryz.func222 fun g0 w0 R hE=>by
  unfold Zav at h
  refine iteB h (fun c1 h6=>?_) (fun c1 h7=>?_)
  ·exact aq fol [.r [],.r [],.c true,.r [],.r [],.s 1] [0,2] [] (aI c1 (leI 0 32)) (Zav.p1_ok h6 hE)
  ·exact aq fol [.r [],.r [],.c false,.s 1] [0,2] [] c1 (Zav.p1_ok h7 hE)
noncomputable def ZbB.B:Code:=Tryz.f238.body.getD .skip
noncomputable def ZbB.rs (r:Int):List CV:=[oI r]
noncomputable def ZbB (N:Nat) (x_0:Int):Option Int:=
 optE (Zav N x_0) fun x1=>
 some (w64 (64-x1))
theorem ZbB.snd {x_0:Int} {r:Int} (h:ZbB N x_0=some r):SndQ Tryz.prog 238 [.one (L.int .u64 x_0)] (ZbB.rs r):=fun st=>
 sO ZbB.B Tryz.func238 fun g0 w0 R hE=>by
  unfold ZbB at h
  obtain ⟨x1,c1,h1⟩:=Zae h
  obtain rfl:=Zad h1
  exact af fol hE [.r [],.r [(1,q1 [oI x1])]] [] 0 [] (Zav.snd c1)
noncomputable def Zag.B:Code:=Tryz.f225.body.getD .skip
noncomputable def Zag.rs (r:Int×Int):List CV:=[.one (L.int .u64 r.1),.one (L.int .u64 r.2)]
noncomputable def Zag.p6 (N:Nat) (y_2 x1 lo_1 q1_4 hi_0 q0_7:Int):Option (Int×Int):=
 chk (0≤(v64 (x1)))<|
 some (v64 ((v64 (q1_4*4294967296))+q0_7),shrOf .u64 (v64 ((v64 ((v64 ((v64 ((v64 ((v64 ((bitsOf .or .u64 (shlOf .u64 hi_0 (v64 (x1))) (shrOf .u64 lo_1 (v64 (64-(v64 (x1))))))*4294967296))+(shrOf .u64 (shlOf .u64 lo_1 (v64 (x1))) 32)))-(v64 (q1_4*(shlOf .u64 y_2 (v64 (x1)))))))*4294967296))+(bitsOf .and .u64 (shlOf .u64 lo_1 (v64 (x1))) 4294967295)))-(v64 (q0_7*(shlOf .u64 y_2 (v64 (x1))))))) (v64 (x1)))
noncomputable def Zag.p5 (N:Nat) (c4_:(Int×Int)→Option (Int×Int)) (y_2 x1 lo_1 q1_4 rhat_5 hi_0 q0_6:Int):Option (Int×Int):=
 if (decide ((v64 (rhat_5+(shrOf .u64 (shlOf .u64 y_2 (v64 (x1))) 32)))≥4294967296))=true then
  Zag.p6 N y_2 x1 lo_1 q1_4 hi_0 (v64 (q0_6-1))
 else
 c4_ (v64 (rhat_5+(shrOf .u64 (shlOf .u64 y_2 (v64 (x1))) 32)),v64 (q0_6-1))
noncomputable def Zag.p4 (N:Nat) (y_2 x1 lo_1 q1_4 hi_0:Int) (c4_:(Int×Int)→Option (Int×Int)):(Int×Int)→Option (Int×Int):=fun (rhat_5,q0_6)=>
 if (decide (q0_6≥4294967296))=true then
  Zag.p5 N c4_ y_2 x1 lo_1 q1_4 rhat_5 hi_0 q0_6
 else
 if (decide ((v64 (q0_6*(bitsOf .and .u64 (shlOf .u64 y_2 (v64 (x1))) 4294967295)))>(v64 ((v64 (4294967296*rhat_5))+(bitsOf .and .u64 (shlOf .u64 lo_1 (v64 (x1))) 4294967295)))))=true then
  Zag.p5 N c4_ y_2 x1 lo_1 q1_4 rhat_5 hi_0 q0_6
 else
 Zag.p6 N y_2 x1 lo_1 q1_4 hi_0 q0_6
noncomputable def Zag.p3 (N:Nat) (y_2 x1 hi_0 lo_1 q1_4:Int):Option (Int×Int):=
 chk ((shrOf .u64 (shlOf .u64 y_2 (v64 (x1))) 32)≠0)<|
 loopN (Zag.p4 N y_2 x1 lo_1 q1_4 hi_0) N (v64 ((v64 ((v64 ((v64 ((bitsOf .or .u64 (shlOf .u64 hi_0 (v64 (x1))) (shrOf .u64 lo_1 (v64 (64-(v64 (x1))))))*4294967296))+(shrOf .u64 (shlOf .u64 lo_1 (v64 (x1))) 32)))-(v64 (q1_4*(shlOf .u64 y_2 (v64 (x1)))))))-(v64 ((v64 (Int.tdiv (v64 ((v64 ((v64 ((bitsOf .or .u64 (shlOf .u64 hi_0 (v64 (x1))) (shrOf .u64 lo_1 (v64 (64-(v64 (x1))))))*4294967296))+(shrOf .u64 (shlOf .u64 lo_1 (v64 (x1))) 32)))-(v64 (q1_4*(shlOf .u64 y_2 (v64 (x1))))))) (shrOf .u64 (shlOf .u64 y_2 (v64 (x1))) 32)))*(shrOf .u64 (shlOf .u64 y_2 (v64 (x1))) 32)))),v64 (Int.tdiv (v64 ((v64 ((v64 ((bitsOf .or .u64 (shlOf .u64 hi_0 (v64 (x1))) (shrOf .u64 lo_1 (v64 (64-(v64 (x1))))))*4294967296))+(shrOf .u64 (shlOf .u64 lo_1 (v64 (x1))) 32)))-(v64 (q1_4*(shlOf .u64 y_2 (v64 (x1))))))) (shrOf .u64 (shlOf .u64 y_2 (v64 (x1))) 32)))
noncomputable def Zag.p2 (N:Nat) (c1_:(Int×Int)→Option (Int×Int)) (y_2 x1 hi_0 lo_1 q1_2 rhat_3:Int):Option (Int×Int):=
 if (decide ((v64 (rhat_3+(shrOf .u64 (shlOf .u64 y_2 (v64 (x1))) 32)))≥4294967296))=true then
  Zag.p3 N y_2 x1 hi_0 lo_1 (v64 (q1_2-1))
 else
 c1_ (v64 (q1_2-1),v64 (rhat_3+(shrOf .u64 (shlOf .u64 y_2 (v64 (x1))) 32)))
noncomputable def Zag.p1 (N:Nat) (y_2 x1 hi_0 lo_1:Int) (c1_:(Int×Int)→Option (Int×Int)):(Int×Int)→Option (Int×Int):=fun (q1_2,rhat_3)=>
 if (decide (q1_2≥4294967296))=true then
  Zag.p2 N c1_ y_2 x1 hi_0 lo_1 q1_2 rhat_3
 else
 if (decide ((v64 (q1_2*(bitsOf .and .u64 (shlOf .u64 y_2 (v64 (x1))) 4294967295)))>(v64 ((v64 (4294967296*rhat_3))+(shrOf .u64 (shlOf .u64 lo_1 (v64 (x1))) 32)))))=true then
  Zag.p2 N c1_ y_2 x1 hi_0 lo_1 q1_2 rhat_3
 else
 Zag.p3 N y_2 x1 hi_0 lo_1 q1_2
noncomputable def Zag (N:Nat) (hi_0 lo_1 y_2:Int):Option (Int×Int):=
 if (y_2==0)=true then
  none
 else
 if (decide (y_2≤hi_0))=true then
  none
 else
 if (hi_0==0)=true then
  chk (y_2≠0)<|
  some (v64 (Int.tdiv lo_1 y_2),Int.tmod lo_1 y_2)
 else
 optE (ZbB N y_2) fun x1=>
 chk (0≤(v64 (x1)))<|
 chk (0≤(v64 (64-(v64 (x1)))))<|
 chk ((shrOf .u64 (shlOf .u64 y_2 (v64 (x1))) 32)≠0)<|
 loopN (Zag.p1 N y_2 x1 hi_0 lo_1) N (v64 (Int.tdiv (bitsOf .or .u64 (shlOf .u64 hi_0 (v64 (x1))) (shrOf .u64 lo_1 (v64 (64-(v64 (x1)))))) (shrOf .u64 (shlOf .u64 y_2 (v64 (x1))) 32)),v64 ((bitsOf .or .u64 (shlOf .u64 hi_0 (v64 (x1))) (shrOf .u64 lo_1 (v64 (64-(v64 (x1))))))-(v64 ((v64 (Int.tdiv (bitsOf .or .u64 (shlOf .u64 hi_0 (v64 (x1))) (shrOf .u64 lo_1 (v64 (64-(v64 (x1)))))) (shrOf .u64 (shlOf .u64 y_2 (v64 (x1))) 32)))*(shrOf .u64 (shlOf .u64 y_2 (v64 (x1))) 32)))))
noncomputable def Zag.p6.S (y_2 x1 lo_1 q1_4 hi_0 q0_7:Int) (st:LL):S:=mkS 135 [(2,.one (.l (L.int .u64 (shlOf .u64 y_2 (v64 (x1)))))),(8,.one (.l (L.int .u64 (v64 (x1))))),(14,.one (.l (L.int .u64 (bitsOf .and .u64 (shlOf .u64 lo_1 (v64 (x1))) 4294967295)))),(15,.one (.l (L.int .u64 q1_4))),(17,.one (.l (L.int .u64 (v64 ((v64 ((v64 ((bitsOf .or .u64 (shlOf .u64 hi_0 (v64 (x1))) (shrOf .u64 lo_1 (v64 (64-(v64 (x1))))))*4294967296))+(shrOf .u64 (shlOf .u64 lo_1 (v64 (x1))) 32)))-(v64 (q1_4*(shlOf .u64 y_2 (v64 (x1)))))))))),(18,.one (.l (L.int .u64 q0_7)))] [] st
noncomputable def Zag.p5.S (y_2 x1 lo_1 q1_4 rhat_5 hi_0 q0_6:Int) (st:LL):S:=mkS 135 [(2,.one (.l (L.int .u64 (shlOf .u64 y_2 (v64 (x1)))))),(8,.one (.l (L.int .u64 (v64 (x1))))),(9,.one (.l (L.int .u64 (shrOf .u64 (shlOf .u64 y_2 (v64 (x1))) 32)))),(10,.one (.l (L.int .u64 (bitsOf .and .u64 (shlOf .u64 y_2 (v64 (x1))) 4294967295)))),(14,.one (.l (L.int .u64 (bitsOf .and .u64 (shlOf .u64 lo_1 (v64 (x1))) 4294967295)))),(15,.one (.l (L.int .u64 q1_4))),(16,.one (.l (L.int .u64 rhat_5))),(17,.one (.l (L.int .u64 (v64 ((v64 ((v64 ((bitsOf .or .u64 (shlOf .u64 hi_0 (v64 (x1))) (shrOf .u64 lo_1 (v64 (64-(v64 (x1))))))*4294967296))+(shrOf .u64 (shlOf .u64 lo_1 (v64 (x1))) 32)))-(v64 (q1_4*(shlOf .u64 y_2 (v64 (x1)))))))))),(18,.one (.l (L.int .u64 q0_6)))] [] st
noncomputable def Zag.p4.S (y_2 x1 lo_1 q1_4 rhat_5 hi_0 q0_6:Int) (st:LL):S:=mkS 135 [(2,.one (.l (L.int .u64 (shlOf .u64 y_2 (v64 (x1)))))),(8,.one (.l (L.int .u64 (v64 (x1))))),(9,.one (.l (L.int .u64 (shrOf .u64 (shlOf .u64 y_2 (v64 (x1))) 32)))),(10,.one (.l (L.int .u64 (bitsOf .and .u64 (shlOf .u64 y_2 (v64 (x1))) 4294967295)))),(14,.one (.l (L.int .u64 (bitsOf .and .u64 (shlOf .u64 lo_1 (v64 (x1))) 4294967295)))),(15,.one (.l (L.int .u64 q1_4))),(16,.one (.l (L.int .u64 rhat_5))),(17,.one (.l (L.int .u64 (v64 ((v64 ((v64 ((bitsOf .or .u64 (shlOf .u64 hi_0 (v64 (x1))) (shrOf .u64 lo_1 (v64 (64-(v64 (x1))))))*4294967296))+(shrOf .u64 (shlOf .u64 lo_1 (v64 (x1))) 32)))-(v64 (q1_4*(shlOf .u64 y_2 (v64 (x1)))))))))),(18,.one (.l (L.int .u64 q0_6)))] [] st
noncomputable def Zag.p3.S (y_2 x1 hi_0 lo_1 q1_4:Int) (st:LL):S:=mkS 135 [(2,.one (.l (L.int .u64 (shlOf .u64 y_2 (v64 (x1)))))),(8,.one (.l (L.int .u64 (v64 (x1))))),(9,.one (.l (L.int .u64 (shrOf .u64 (shlOf .u64 y_2 (v64 (x1))) 32)))),(10,.one (.l (L.int .u64 (bitsOf .and .u64 (shlOf .u64 y_2 (v64 (x1))) 4294967295)))),(11,.one (.l (L.int .u64 (bitsOf .or .u64 (shlOf .u64 hi_0 (v64 (x1))) (shrOf .u64 lo_1 (v64 (64-(v64 (x1))))))))),(13,.one (.l (L.int .u64 (shrOf .u64 (shlOf .u64 lo_1 (v64 (x1))) 32)))),(14,.one (.l (L.int .u64 (bitsOf .and .u64 (shlOf .u64 lo_1 (v64 (x1))) 4294967295)))),(15,.one (.l (L.int .u64 q1_4)))] [] st
noncomputable def Zag.p2.S (y_2 x1 hi_0 lo_1 q1_2 rhat_3:Int) (st:LL):S:=mkS 135 [(2,.one (.l (L.int .u64 (shlOf .u64 y_2 (v64 (x1)))))),(8,.one (.l (L.int .u64 (v64 (x1))))),(9,.one (.l (L.int .u64 (shrOf .u64 (shlOf .u64 y_2 (v64 (x1))) 32)))),(10,.one (.l (L.int .u64 (bitsOf .and .u64 (shlOf .u64 y_2 (v64 (x1))) 4294967295)))),(11,.one (.l (L.int .u64 (bitsOf .or .u64 (shlOf .u64 hi_0 (v64 (x1))) (shrOf .u64 lo_1 (v64 (64-(v64 (x1))))))))),(13,.one (.l (L.int .u64 (shrOf .u64 (shlOf .u64 lo_1 (v64 (x1))) 32)))),(14,.one (.l (L.int .u64 (bitsOf .and .u64 (shlOf .u64 lo_1 (v64 (x1))) 4294967295)))),(15,.one (.l (L.int .u64 q1_2))),(16,.one (.l (L.int .u64 rhat_3)))] [] st
noncomputable def Zag.p1.S (y_2 x1 hi_0 lo_1 q1_2 rhat_3:Int) (st:LL):S:=mkS 135 [(2,.one (.l (L.int .u64 (shlOf .u64 y_2 (v64 (x1)))))),(8,.one (.l (L.int .u64 (v64 (x1))))),(9,.one (.l (L.int .u64 (shrOf .u64 (shlOf .u64 y_2 (v64 (x1))) 32)))),(10,.one (.l (L.int .u64 (bitsOf .and .u64 (shlOf .u64 y_2 (v64 (x1))) 4294967295)))),(11,.one (.l (L.int .u64 (bitsOf .or .u64 (shlOf .u64 hi_0 (v64 (x1))) (shrOf .u64 lo_1 (v64 (64-(v64 (x1))))))))),(13,.one (.l (L.int .u64 (shrOf .u64 (shlOf .u64 lo_1 (v64 (x1))) 32)))),(14,.one (.l (L.int .u64 (bitsOf .and .u64 (shlOf .u64 lo_1 (v64 (x1))) 4294967295)))),(15,.one (.l (L.int .u64 q1_2))),(16,.one (.l (L.int .u64 rhat_3)))] [] st
theorem Zag.p6_ok {y_2 x1 lo_1 q1_4 hi_0 q0_7 st r} (h:Zag.p6 N y_2 x1 lo_1 q1_4 hi_0 q0_7=some r) (hE:En Tryz.f225 g0 w0 (Zag.rs r) st R):At g0 w0 (Zag.p6.S y_2 x1 lo_1 q1_4 hi_0 q0_7 st) (XK Tryz.prog R [.c (csub Zag.B [1,1,1,1,1,1,1,1,1,1,1,1,1,1,1,1,1,1,1])]):=by
 unfold Zag.p6 at h
 obtain ⟨c16,h1⟩:=ZaO h
 obtain rfl:=Zad h1
 exact af fol hE [.r []] [] 0 [] c16
theorem Zag.p5_ok {y_2 x1 lo_1 q1_4 rhat_5 hi_0 q0_6 st r c4_ J4} (h:Zag.p5 N c4_ y_2 x1 lo_1 q1_4 rhat_5 hi_0 q0_6=some r) (hE:En Tryz.f225 g0 w0 (Zag.rs r) st R) (hc4 : ∀rhat_5 q0_6,c4_ (rhat_5,q0_6)=some r→At g0 w0 (Zag.p4.S y_2 x1 lo_1 q1_4 rhat_5 hi_0 q0_6 st) J4):At g0 w0 (Zag.p5.S y_2 x1 lo_1 q1_4 rhat_5 hi_0 q0_6 st) (XK Tryz.prog R [.c (csub Zag.B [1,1,1,1,1,1,1,1,1,1,1,1,1,1,1,1,1,1,0,0,0,1]),.h J4,.b 2,.c (csub Zag.B [1,1,1,1,1,1,1,1,1,1,1,1,1,1,1,1,1,1,1])]):=by
 unfold Zag.p5 at h
 refine iteB h (fun c15 h2=>?_) (fun c15 h3=>?_)
 ·exact aq fol [.r [],.r [],.r [],.c true,.s 1] [2,8,14,15,17,18] [] c15 (Zag.p6_ok h2 hE)
 ·exact an fol [.r [],.r [],.r [],.c false] [2,8,9,10,14,15,16,17,18] [] c15 (hc4 (v64 (rhat_5+(shrOf .u64 (shlOf .u64 y_2 (v64 (x1))) 32))) (v64 (q0_6-1)) h3)
theorem Zag.p4_ok {y_2 x1 lo_1 q1_4 rhat_5 hi_0 q0_6 st r c4_ J4} (h:Zag.p4 N y_2 x1 lo_1 q1_4 hi_0 c4_ (rhat_5,q0_6)=some r) (hE:En Tryz.f225 g0 w0 (Zag.rs r) st R) (hc4 : ∀rhat_5 q0_6,c4_ (rhat_5,q0_6)=some r→At g0 w0 (Zag.p4.S y_2 x1 lo_1 q1_4 rhat_5 hi_0 q0_6 st) J4):At g0 w0 (Zag.p4.S y_2 x1 lo_1 q1_4 rhat_5 hi_0 q0_6 st) (XK Tryz.prog R (.c (csub Zag.B [1,1,1,1,1,1,1,1,1,1,1,1,1,1,1,1,1,1,0,0,0]) :: .h J4 :: [.b 2,.c (csub Zag.B [1,1,1,1,1,1,1,1,1,1,1,1,1,1,1,1,1,1,1])])):=by
 unfold Zag.p4 at h
 refine iteB h (fun c13 h4=>?_) (fun c13 h5=>?_)
 ·exact aq fol [.r [(3,wF),(4,wF),(5,wF),(6,wF),(7,wF),(8,wF),(9,wF),(10,wF)],.c true,.s 4] [2,8,9,10,14,15,16,17,18] [] (aO c13 c13 c13 c13 c13 c13 c13 (aJ c13 c13 eT)) (Zag.p5_ok h4 hE hc4)
 ·have t1 {Q:Prop} (q:Q):=aO c13 c13 c13 c13 c13 c13 c13 (aJ c13 c13 q)
  refine iteB h5 (fun c14 h6=>?_) (fun c14 h7=>?_)
  ·exact aq fol [.r [(11,yF)],.c true,.s 4] [2,8,9,10,14,15,16,17,18] [] (t1 c14) (Zag.p5_ok h6 hE hc4)
  ·exact aq fol [.r [(11,yF)],.c false,.s 1] [2,8,14,15,17,18] [] (t1 c14) (Zag.p6_ok h7 hE)
theorem Zag.p3_ok {y_2 x1 hi_0 lo_1 q1_4 st r} (h:Zag.p3 N y_2 x1 hi_0 lo_1 q1_4=some r) (hE:En Tryz.f225 g0 w0 (Zag.rs r) st R):At g0 w0 (Zag.p3.S y_2 x1 hi_0 lo_1 q1_4 st) (XK Tryz.prog R [.c (csub Zag.B [1,1,1,1,1,1,1,1,1,1,1,1,1,1,1])]):=by
 unfold Zag.p3 at h
 obtain ⟨c12,h8⟩:=ZaO h
 exact aq fol [.r [],.r [],.r []] [2,8,9,10,14,15,16,17,18] [] c12 (At.loop N (At.loopN (fun y:Int×Int=>Zag.p4.S y_2 x1 lo_1 q1_4 y.1 hi_0 y.2 st) (fun c J hc y h=>Zag.p4_ok (rhat_5:=y.1) (q0_6:=y.2) h hE (fun rhat_5 q0_6=>hc (rhat_5,q0_6))) N (v64 ((v64 ((v64 ((v64 ((bitsOf .or .u64 (shlOf .u64 hi_0 (v64 (x1))) (shrOf .u64 lo_1 (v64 (64-(v64 (x1))))))*4294967296))+(shrOf .u64 (shlOf .u64 lo_1 (v64 (x1))) 32)))-(v64 (q1_4*(shlOf .u64 y_2 (v64 (x1)))))))-(v64 ((v64 (Int.tdiv (v64 ((v64 ((v64 ((bitsOf .or .u64 (shlOf .u64 hi_0 (v64 (x1))) (shrOf .u64 lo_1 (v64 (64-(v64 (x1))))))*4294967296))+(shrOf .u64 (shlOf .u64 lo_1 (v64 (x1))) 32)))-(v64 (q1_4*(shlOf .u64 y_2 (v64 (x1))))))) (shrOf .u64 (shlOf .u64 y_2 (v64 (x1))) 32)))*(shrOf .u64 (shlOf .u64 y_2 (v64 (x1))) 32)))),v64 (Int.tdiv (v64 ((v64 ((v64 ((bitsOf .or .u64 (shlOf .u64 hi_0 (v64 (x1))) (shrOf .u64 lo_1 (v64 (64-(v64 (x1))))))*4294967296))+(shrOf .u64 (shlOf .u64 lo_1 (v64 (x1))) 32)))-(v64 (q1_4*(shlOf .u64 y_2 (v64 (x1))))))) (shrOf .u64 (shlOf .u64 y_2 (v64 (x1))) 32))) h8))
theorem Zag.p2_ok {y_2 x1 hi_0 lo_1 q1_2 rhat_3 st r c1_ J1} (h:Zag.p2 N c1_ y_2 x1 hi_0 lo_1 q1_2 rhat_3=some r) (hE:En Tryz.f225 g0 w0 (Zag.rs r) st R) (hc1 : ∀q1_2 rhat_3,c1_ (q1_2,rhat_3)=some r→At g0 w0 (Zag.p1.S y_2 x1 hi_0 lo_1 q1_2 rhat_3 st) J1):At g0 w0 (Zag.p2.S y_2 x1 hi_0 lo_1 q1_2 rhat_3 st) (XK Tryz.prog R [.c (csub Zag.B [1,1,1,1,1,1,1,1,1,1,1,1,1,1,0,0,0,1]),.h J1,.b 0,.c (csub Zag.B [1,1,1,1,1,1,1,1,1,1,1,1,1,1,1])]):=by
 unfold Zag.p2 at h
 refine iteB h (fun c11 h9=>?_) (fun c11 h10=>?_)
 ·exact aq fol [.r [],.r [],.r [],.c true,.s 1] [2,8,9,10,11,13,14,15] [] c11 (Zag.p3_ok h9 hE)
 ·exact an fol [.r [],.r [],.r [],.c false] [2,8,9,10,11,13,14,15,16] [] c11 (hc1 (v64 (q1_2-1)) (v64 (rhat_3+(shrOf .u64 (shlOf .u64 y_2 (v64 (x1))) 32))) h10)
theorem Zag.p1_ok {y_2 x1 hi_0 lo_1 q1_2 rhat_3 st r c1_ J1} (h:Zag.p1 N y_2 x1 hi_0 lo_1 c1_ (q1_2,rhat_3)=some r) (hE:En Tryz.f225 g0 w0 (Zag.rs r) st R) (hc1 : ∀q1_2 rhat_3,c1_ (q1_2,rhat_3)=some r→At g0 w0 (Zag.p1.S y_2 x1 hi_0 lo_1 q1_2 rhat_3 st) J1):At g0 w0 (Zag.p1.S y_2 x1 hi_0 lo_1 q1_2 rhat_3 st) (XK Tryz.prog R (.c (csub Zag.B [1,1,1,1,1,1,1,1,1,1,1,1,1,1,0,0,0]) :: .h J1 :: [.b 0,.c (csub Zag.B [1,1,1,1,1,1,1,1,1,1,1,1,1,1,1])])):=by
 unfold Zag.p1 at h
 refine iteB h (fun c9 h11=>?_) (fun c9 h12=>?_)
 ·exact aq fol [.r [(3,wF),(4,wF),(5,wF),(6,wF),(7,wF),(8,wF),(9,wF),(10,wF)],.c true,.s 4] [2,8,9,10,11,13,14,15,16] [] (aO c9 c9 c9 c9 c9 c9 c9 (aJ c9 c9 eT)) (Zag.p2_ok h11 hE hc1)
 ·refine iteB h12 (fun c10 h13=>?_) (fun c10 h14=>?_)
  ·exact aq fol [.r [(11,yF)],.c true,.s 4] [2,8,9,10,11,13,14,15,16] [] (aO c9 c9 c9 c9 c9 c9 c9 (aJ c9 c9 c10)) (Zag.p2_ok h13 hE hc1)
  ·exact aq fol [.r [(11,yF)],.c false,.s 1] [2,8,9,10,11,13,14,15] [] (aO c9 c9 c9 c9 c9 c9 c9 (aJ c9 c9 c10)) (Zag.p3_ok h14 hE)
theorem Zag.snd {hi_0 lo_1 y_2:Int} {r:Int×Int} (h:Zag N hi_0 lo_1 y_2=some r):SndQ Tryz.prog 225 [.one (L.int .u64 hi_0),.one (L.int .u64 lo_1),.one (L.int .u64 y_2)] (Zag.rs r):=fun st=>
 sO Zag.B Tryz.func225 fun g0 w0 R hE=>by
  unfold Zag at h
  let o1:List PS:=[.r [],.r [],.c false,.r [],.c false,.r []]
  refine iteB h (fun c1 h15=>?_) (fun c1 h16=>?_)
  ·cases h15
  ·refine iteB h16 (fun c2 h17=>?_) (fun c2 h18=>?_)
   ·cases h17
   ·refine iteB h18 (fun c3 h19=>?_) (fun c3 h20=>?_)
    ·obtain ⟨c4,h21⟩:=ZaO h19
     obtain rfl:=Zad h21
     exact afd fol hE (o1 ++ [.c true,.d {ds:=[],hv:=0,Hs:=[]}]) [] 0 [] (aL c1 c2 c3 c4 c4)
    ·obtain ⟨x1,c5,h22⟩:=Zae h20
     obtain ⟨c6,c7,c8,h23⟩:=ck3 h22
     exact aq fol (o1 ++ [.c false,.r [(1,q1 [oI x1])],.r [],.r [],.r [],.r [],.r [],.r [],.r [],.r [],.r []]) [2,8,9,10,11,13,14,15,16] [] (aO c1 c2 c3 (ZbB.snd c5) c6 (leI 0 32) c6 (aK c7 c6 (leI 0 32) c8)) (At.loop N (At.loopN (fun y:Int×Int=>Zag.p1.S y_2 x1 hi_0 lo_1 y.1 y.2 st) (fun c J hc y h=>Zag.p1_ok (q1_2:=y.1) (rhat_3:=y.2) h hE (fun q1_2 rhat_3=>hc (q1_2,rhat_3))) N (v64 (Int.tdiv (bitsOf .or .u64 (shlOf .u64 hi_0 (v64 (x1))) (shrOf .u64 lo_1 (v64 (64-(v64 (x1)))))) (shrOf .u64 (shlOf .u64 y_2 (v64 (x1))) 32)),v64 ((bitsOf .or .u64 (shlOf .u64 hi_0 (v64 (x1))) (shrOf .u64 lo_1 (v64 (64-(v64 (x1))))))-(v64 ((v64 (Int.tdiv (bitsOf .or .u64 (shlOf .u64 hi_0 (v64 (x1))) (shrOf .u64 lo_1 (v64 (64-(v64 (x1)))))) (shrOf .u64 (shlOf .u64 y_2 (v64 (x1))) 32)))*(shrOf .u64 (shlOf .u64 y_2 (v64 (x1))) 32))))) h23))
noncomputable def ZbS.B:Code:=Tryz.f214.body.getD .skip
noncomputable def ZbS.rs (r:(List Int)×Int):List CV:=[.agg [L.arr .u64 4 r.1],.one (L.int .u64 r.2)]
noncomputable def ZbS.p1 (N:Nat) (by_1:Int) (c1_:(Int×Int×(List Int))→Option ((List Int)×Int)):(Int×Int×(List Int))→Option ((List Int)×Int):=fun (r_1,i_2,a_5)=>
 if (decide (i_2≥0))=true then
  chk (0≤i_2)<|
  chk (i_2<4)<|
  optE (Zag N r_1 (List.getD a_5 (Int.toNat i_2) 0) by_1) fun (x6,x7)=>
  c1_ (x7,w64 (i_2-1),List.set a_5 (Int.toNat i_2) x6)
 else
 some (a_5,r_1)
noncomputable def ZbS (N:Nat) (a_0_0:List Int) (by_1:Int):Option ((List Int)×Int):=
 if (by_1==0)=true then
  some (List.replicate 4 0,0)
 else
 loopN (ZbS.p1 N by_1) N (0,3,a_0_0)
noncomputable def ZbS.p1.S (by_1 r_1 i_2:Int) (a_5:List Int) (st:LL):S:=mkS 28 [(1,.one (.l (L.int .u64 by_1))),(2,sA 2),(4,sA 4),(6,.one (.l (L.int .u64 r_1))),(7,sI i_2)] [(2,.cells [L.arr .u64 4 a_5]),(4,.cells [L.arr .u64 4 (List.replicate 4 0)])] st
theorem ZbS.p1_ok {by_1 r_1 i_2 a_5 st r c1_ J1} (h:ZbS.p1 N by_1 c1_ (r_1,i_2,a_5)=some r) (hE:En Tryz.f214 g0 w0 (ZbS.rs r) st R) (hc1 : ∀r_1 i_2 a_5,c1_ (r_1,i_2,a_5)=some r→At g0 w0 (ZbS.p1.S by_1 r_1 i_2 a_5 st) J1):At g0 w0 (ZbS.p1.S by_1 r_1 i_2 a_5 st) (XK Tryz.prog R (.c (csub ZbS.B [1,1,1,0,1,0,0]) :: .h J1 :: [.b 0,.c (csub ZbS.B [1,1,1,1])])):=by
 unfold ZbS.p1 at h
 refine iteB h (fun c6 h1=>?_) (fun c6 h2=>?_)
 ·obtain ⟨c7,c8,h3⟩:=ck2 h1
  obtain ⟨⟨x6,x7⟩,c9,h4⟩:=Zae h3
  exact an fol [.r [],.c true,.r [(6,q1 [.one (L.int .u64 x6),.one (L.int .u64 x7)])],.r []] [1,2,4,6,7] [2,4] (aM c6 c7 c8 (Zag.snd c9) c7 c8) (hc1 x7 (w64 (i_2-1)) (List.set a_5 (Int.toNat i_2) x6) h4)
 ·obtain rfl:=Zad h2
  exact af fol hE [.r [],.c false,.r []] [] 0 [] c6
theorem ZbS.snd {a_0_0:List Int} {by_1:Int} {r:(List Int)×Int} (h:ZbS N a_0_0 by_1=some r):SndQ Tryz.prog 214 [.agg [L.arr .u64 4 a_0_0],.one (L.int .u64 by_1)] (ZbS.rs r):=fun st=>
 sO ZbS.B Tryz.func214 fun g0 w0 R hE=>by
  unfold ZbS at h
  refine iteB h (fun c1 h5=>?_) (fun c1 h6=>?_)
  ·obtain rfl:=Zad h5
   exact af fol hE [.r [],.r [],.c true,.r []] [] 0 [] c1
  ·exact aq fol [.r [],.r [],.c false,.r [],.r []] [1,2,4,6,7] [2,4] c1 (At.loop N (At.loopN (fun y:Int×Int×(List Int)=>ZbS.p1.S by_1 y.1 y.2.1 y.2.2 st) (fun c J hc y h=>ZbS.p1_ok (r_1:=y.1) (i_2:=y.2.1) (a_5:=y.2.2) h hE (fun r_1 i_2 a_5=>hc (r_1,i_2,a_5))) N (0,3,a_0_0) h6))
noncomputable def Zck.B:Code:=Tryz.f226.body.getD .skip
noncomputable def Zck.rs (r:Int×Int):List CV:=[.one (L.int .u64 r.1),.one (L.int .u64 r.2)]
noncomputable def Zck (N:Nat) (x_0 y_1:Int):Option (Int×Int):=
 some (v64 ((v64 ((v64 ((shrOf .u64 x_0 32)*(shrOf .u64 y_1 32)))+(shrOf .u64 (v64 ((v64 ((shrOf .u64 x_0 32)*(bitsOf .and .u64 y_1 4294967295)))+(shrOf .u64 (v64 ((bitsOf .and .u64 x_0 4294967295)*(bitsOf .and .u64 y_1 4294967295))) 32))) 32)))+(shrOf .u64 (v64 ((bitsOf .and .u64 (v64 ((v64 ((shrOf .u64 x_0 32)*(bitsOf .and .u64 y_1 4294967295)))+(shrOf .u64 (v64 ((bitsOf .and .u64 x_0 4294967295)*(bitsOf .and .u64 y_1 4294967295))) 32))) 4294967295)+(v64 ((bitsOf .and .u64 x_0 4294967295)*(shrOf .u64 y_1 32))))) 32)),v64 (x_0*y_1))
theorem Zck.snd {x_0 y_1:Int} {r:Int×Int} (h:Zck N x_0 y_1=some r):SndQ Tryz.prog 226 [.one (L.int .u64 x_0),.one (L.int .u64 y_1)] (Zck.rs r):=fun st=>
 sO Zck.B Tryz.func226 fun g0 w0 R hE=>by
  unfold Zck at h
  obtain rfl:=Zad h
  exact af fol hE [.r [],.r [],.r [],.r [],.r [],.r [],.r [],.r [],.r [],.r [],.r [],.r []] [] 0 [] (aL (leI 0 32) (leI 0 32) (leI 0 32) (leI 0 32) (leI 0 32))
noncomputable def ZbG.B:Code:=Tryz.f215.body.getD .skip
noncomputable def ZbG.rs (r:(List Int)×Bool):List CV:=[.agg [L.arr .u64 4 r.1],oB r.2]
noncomputable def ZbG.p1 (N:Nat) (by_1:Int) (c1_:(Int×Int×(List Int))→Option ((List Int)×Bool)):(Int×Int×(List Int))→Option ((List Int)×Bool):=fun (c_1,v2,a_7)=>
 if (decide (v2<4))=true then
  chk (0≤v2)<|
  optE (Zck N (List.getD a_7 (Int.toNat v2) 0) by_1) fun (x8,x9)=>
  optE (Zda N x9 c_1 0) fun (x10,x11)=>
  c1_ (v64 (x8+x11),w64 (v2+1),List.set a_7 (Int.toNat v2) x10)
 else
 some (a_7,c_1 != 0)
noncomputable def ZbG (N:Nat) (a_0_0:List Int) (by_1:Int):Option ((List Int)×Bool):=
 loopN (ZbG.p1 N by_1) N (0,0,a_0_0)
noncomputable def ZbG.p1.S (by_1 c_1 v2:Int) (a_7:List Int) (st:LL):S:=mkS 37 [(1,.one (.l (L.int .u64 by_1))),(2,sA 2),(4,sA 4),(6,.one (.l (L.int .u64 c_1))),(11,sI v2)] [(2,.cells [L.arr .u64 4 a_7]),(4,.cells [L.arr .u64 4 (List.replicate 4 0)])] st
theorem ZbG.p1_ok {by_1 c_1 v2 a_7 st r c1_ J1} (h:ZbG.p1 N by_1 c1_ (c_1,v2,a_7)=some r) (hE:En Tryz.f215 g0 w0 (ZbG.rs r) st R) (hc1 : ∀c_1 v2 a_7,c1_ (c_1,v2,a_7)=some r→At g0 w0 (ZbG.p1.S by_1 c_1 v2 a_7 st) J1):At g0 w0 (ZbG.p1.S by_1 c_1 v2 a_7 st) (XK Tryz.prog R (.c (csub ZbG.B [1,1,0,1,0,0]) :: .h J1 :: [.b 0,.c (csub ZbG.B [1,1,1])])):=by
 unfold ZbG.p1 at h
 refine iteB h (fun c5 h1=>?_) (fun c5 h2=>?_)
 ·obtain ⟨c6,h3⟩:=ZaO h1
  obtain ⟨⟨x8,x9⟩,c7,h4⟩:=Zae h3
  obtain ⟨⟨x10,x11⟩,c8,h5⟩:=Zae h4
  exact an fol [.r [],.c true,.r [],.r [(4,q1 [.one (L.int .u64 x8),.one (L.int .u64 x9)])],.r [],.r [(3,{rs:=[.one (L.int .u64 x10),.one (L.int .u64 x11)],m:=4})],.r [],.r []] [1,2,4,6,11] [2,4] (aN c5 c6 (oD c5) (Zck.snd c7) (Zda.snd c8) c6 (oD c5)) (hc1 (v64 (x8+x11)) (w64 (v2+1)) (List.set a_7 (Int.toNat v2) x10) h5)
 ·obtain rfl:=Zad h2
  exact af fol hE [.r [],.c false,.r []] [] 0 [] c5
theorem ZbG.snd {a_0_0:List Int} {by_1:Int} {r:(List Int)×Bool} (h:ZbG N a_0_0 by_1=some r):SndQ Tryz.prog 215 [.agg [L.arr .u64 4 a_0_0],.one (L.int .u64 by_1)] (ZbG.rs r):=fun st=>
 sO ZbG.B Tryz.func215 fun g0 w0 R hE=>by
  unfold ZbG at h
  exact aq fol [.r [],.r [],.r []] [1,2,4,6,11] [2,4] trivial (At.loop N (At.loopN (fun y:Int×Int×(List Int)=>ZbG.p1.S by_1 y.1 y.2.1 y.2.2 st) (fun c J hc y h=>ZbG.p1_ok (c_1:=y.1) (v2:=y.2.1) (a_7:=y.2.2) h hE (fun c_1 v2 a_7=>hc (c_1,v2,a_7))) N (0,0,a_0_0) h))
noncomputable def ZbC.B:Code:=Tryz.f174.body.getD .skip
noncomputable def ZbC.rs (r:(List Int)×Bool):List CV:=[.agg [L.arr .u64 4 r.1],oB r.2]
noncomputable def ZbC.p1 (N:Nat) (b_1_0:List Int) (c1_:(Int×Int×(List Int))→Option ((List Int)×Bool)):(Int×Int×(List Int))→Option ((List Int)×Bool):=fun (c_1,v2,a_5)=>
 if (decide (v2<4))=true then
  chk (0≤v2)<|
  optE (Zda N (List.getD a_5 (Int.toNat v2) 0) (List.getD b_1_0 (Int.toNat v2) 0) c_1) fun (x6,x7)=>
  c1_ (x7,w64 (v2+1),List.set a_5 (Int.toNat v2) x6)
 else
 some (a_5,c_1 != 0)
noncomputable def ZbC (N:Nat) (a_0_0 b_1_0:List Int):Option ((List Int)×Bool):=
 loopN (ZbC.p1 N b_1_0) N (0,0,a_0_0)
noncomputable def ZbC.p1.S (c_1 v2:Int) (a_5 b_1_0:List Int) (st:LL):S:=mkS 28 [(2,sA 2),(3,sA 3),(4,sA 4),(6,.one (.l (L.int .u64 c_1))),(8,sI v2)] [(2,.cells [L.arr .u64 4 a_5]),(3,.cells [L.arr .u64 4 b_1_0]),(4,.cells [L.arr .u64 4 (List.replicate 4 0)])] st
theorem ZbC.p1_ok {c_1 v2 a_5 b_1_0 st r c1_ J1} (h:ZbC.p1 N b_1_0 c1_ (c_1,v2,a_5)=some r) (hE:En Tryz.f174 g0 w0 (ZbC.rs r) st R) (hc1 : ∀c_1 v2 a_5,c1_ (c_1,v2,a_5)=some r→At g0 w0 (ZbC.p1.S c_1 v2 a_5 b_1_0 st) J1):At g0 w0 (ZbC.p1.S c_1 v2 a_5 b_1_0 st) (XK Tryz.prog R (.c (csub ZbC.B [1,1,0,1,0,0]) :: .h J1 :: [.b 0,.c (csub ZbC.B [1,1,1])])):=by
 unfold ZbC.p1 at h
 refine iteB h (fun c4 h1=>?_) (fun c4 h2=>?_)
 ·obtain ⟨c5,h3⟩:=ZaO h1
  obtain ⟨⟨x6,x7⟩,c6,h4⟩:=Zae h3
  exact and_ fol [.r [],.c true,.r [],.d {ds:=[(8,{rs:=[.one (L.int .u64 x6),.one (L.int .u64 x7)],m:=4})],hv:=8192,Hs:=[8192]},.r []] [2,3,4,6,8] [2,3,4] (aO c4 c5 (oD c4) c5 (oD c4) (Zda.snd c6) c5 (oD c4)) (hc1 x7 (w64 (v2+1)) (List.set a_5 (Int.toNat v2) x6) h4)
 ·obtain rfl:=Zad h2
  exact af fol hE [.r [],.c false,.r []] [] 0 [] c4
theorem ZbC.snd {a_0_0 b_1_0:List Int} {r:(List Int)×Bool} (h:ZbC N a_0_0 b_1_0=some r):SndQ Tryz.prog 174 [.agg [L.arr .u64 4 a_0_0],.agg [L.arr .u64 4 b_1_0]] (ZbC.rs r):=fun st=>
 sO ZbC.B Tryz.func174 fun g0 w0 R hE=>by
  unfold ZbC at h
  exact aq fol [.r [],.r [],.r []] [2,3,4,6,8] [2,3,4] trivial (At.loop N (At.loopN (fun y:Int×Int×(List Int)=>ZbC.p1.S y.1 y.2.1 y.2.2 b_1_0 st) (fun c J hc y h=>ZbC.p1_ok (c_1:=y.1) (v2:=y.2.1) (a_5:=y.2.2) h hE (fun c_1 v2 a_5=>hc (c_1,v2,a_5))) N (0,0,a_0_0) h))
noncomputable def ZbZ.B:Code:=Tryz.f206.body.getD .skip
noncomputable def ZbZ.rs (r:Int):List CV:=[oI r]
noncomputable def ZbZ.p1 (N:Nat) (a_0_0:List Int) (c1_:Int→Option Int):Int→Option Int:=fun i_1=>
 if (decide (i_1≥0))=true then
  chk (0≤i_1)<|
  chk (i_1<4)<|
  if ((List.getD a_0_0 (Int.toNat i_1) 0) != 0)=true then
   optE (Zav N (List.getD a_0_0 (Int.toNat i_1) 0)) fun x2=>
   some (w64 ((w64 (64*i_1))+x2))
  else
  c1_ (w64 (i_1-1))
 else
 some 0
noncomputable def ZbZ (N:Nat) (a_0_0:List Int):Option Int:=
 loopN (ZbZ.p1 N a_0_0) N 3
noncomputable def ZbZ.p1.S (i_1:Int) (a_0_0:List Int) (st:LL):S:=mkS 19 [(1,sA 1),(3,sI i_1)] [(1,.cells [L.arr .u64 4 a_0_0])] st
theorem ZbZ.p1_ok {i_1 a_0_0 st r c1_ J1} (h:ZbZ.p1 N a_0_0 c1_ i_1=some r) (hE:En Tryz.f206 g0 w0 (ZbZ.rs r) st R) (hc1 : ∀i_1,c1_ i_1=some r→At g0 w0 (ZbZ.p1.S i_1 a_0_0 st) J1):At g0 w0 (ZbZ.p1.S i_1 a_0_0 st) (XK Tryz.prog R (.c (csub ZbZ.B [1,0,1,0,0]) :: .h J1 :: [.b 0,.c (csub ZbZ.B [1,1])])):=by
 unfold ZbZ.p1 at h
 refine iteB h (fun c1 h1=>?_) (fun c1 h2=>?_)
 ·obtain ⟨c2,c3,h3⟩:=ck2 h1
  refine iteB h3 (fun c4 h4=>?_) (fun c4 h5=>?_)
  ·obtain ⟨x2,c5,h6⟩:=Zae h4
   obtain rfl:=Zad h6
   exact af fol hE [.r [],.c true,.r [],.c true,.r [(5,q1 [oI x2])]] [] 0 [] (aN c1 c2 c3 c4 c2 c3 (Zav.snd c5))
  ·exact an fol [.r [],.c true,.r [],.c false,.r []] [1,3] [1] (aK c1 c2 c3 c4) (hc1 (w64 (i_1-1)) h5)
 ·obtain rfl:=Zad h2
  exact af fol hE [.r [],.c false,.r []] [] 0 [] c1
theorem ZbZ.snd {a_0_0:List Int} {r:Int} (h:ZbZ N a_0_0=some r):SndQ Tryz.prog 206 [.agg [L.arr .u64 4 a_0_0]] (ZbZ.rs r):=fun st=>
 sO ZbZ.B Tryz.func206 fun g0 w0 R hE=>by
  unfold ZbZ at h
  exact aq fol [.r [],.r []] [1,3] [1] trivial (At.loop N (At.loopN (fun y:Int=>ZbZ.p1.S y a_0_0 st) (fun c J hc y h=>ZbZ.p1_ok h hE (fun i_1=>hc i_1)) N 3 h))
noncomputable def ZaK.B:Code:=Tryz.f216.body.getD .skip
noncomputable def ZaK.rs (r:Int):List CV:=[oI r]
noncomputable def ZaK.p2 (N:Nat) (size_5 word_6:Int):Option Int:=
 some (bitsOf .or .i64 (shlOf .i64 size_5 24) word_6)
noncomputable def ZaK.p1 (N:Nat) (x1 word_4:Int):Option Int:=
 if ((bitsOf .and .i64 word_4 8388608) != 0)=true then
  ZaK.p2 N (w64 ((w64 (Int.tdiv (w64 (x1+7)) 8))+1)) (shrOf .i64 word_4 8)
 else
 ZaK.p2 N (w64 (Int.tdiv (w64 (x1+7)) 8)) word_4
noncomputable def ZaK (N:Nat) (n_0_0:List Int):Option Int:=
 optE (ZbZ N n_0_0) fun x1=>
 if (decide ((w64 (Int.tdiv (w64 (x1+7)) 8))≤3))=true then
  optE (Zby N n_0_0 (w64 (8*(w64 (3-(w64 (Int.tdiv (w64 (x1+7)) 8))))))) fun x2=>
  ZaK.p1 N x1 (w64 (List.getD x2 0 0))
 else
 optE (ZaZ N n_0_0 (w64 (8*(w64 ((w64 (Int.tdiv (w64 (x1+7)) 8))-3))))) fun x3=>
 ZaK.p1 N x1 (w64 (List.getD x3 0 0))
noncomputable def ZaK.p2.S (size_5 word_6:Int) (st:LL):S:=mkS 36 [(3,sI size_5),(4,sI word_6)] [] st
noncomputable def ZaK.p1.S (x1 word_4:Int) (st:LL):S:=mkS 36 [(3,sI (w64 (Int.tdiv (w64 (x1+7)) 8))),(4,sI word_4)] [] st
theorem ZaK.p2_ok {size_5 word_6 st r} (h:ZaK.p2 N size_5 word_6=some r) (hE:En Tryz.f216 g0 w0 (ZaK.rs r) st R):At g0 w0 (ZaK.p2.S size_5 word_6 st) (XK Tryz.prog R [.c (csub ZaK.B [1,1,1,1,1])]):=by
 unfold ZaK.p2 at h
 obtain rfl:=Zad h
 exact af fol hE [.r []] [] 0 [] (leI 0 24)
theorem ZaK.p1_ok {x1 word_4 st r} (h:ZaK.p1 N x1 word_4=some r) (hE:En Tryz.f216 g0 w0 (ZaK.rs r) st R):At g0 w0 (ZaK.p1.S x1 word_4 st) (XK Tryz.prog R [.c (csub ZaK.B [1,1,1,1])]):=by
 unfold ZaK.p1 at h
 refine iteB h (fun c5 h1=>?_) (fun c5 h2=>?_)
 ·exact aq fol [.r [],.c true,.r [],.r [],.s 1] [3,4] [] (aI c5 (leI 0 8)) (ZaK.p2_ok h1 hE)
 ·exact aq fol [.r [],.c false,.s 1] [3,4] [] c5 (ZaK.p2_ok h2 hE)
theorem ZaK.snd {n_0_0:List Int} {r:Int} (h:ZaK N n_0_0=some r):SndQ Tryz.prog 216 [.agg [L.arr .u64 4 n_0_0]] (ZaK.rs r):=fun st=>
 sO ZaK.B Tryz.func216 fun g0 w0 R hE=>by
  unfold ZaK at h
  obtain ⟨x1,c1,h3⟩:=Zae h
  let o1:List PS:=[.r [],.r [(1,q1 [oI x1])],.r [],.r []]
  refine iteB h3 (fun c2 h4=>?_) (fun c2 h5=>?_)
  ·obtain ⟨x2,c3,h6⟩:=Zae h4
   exact aq fol (o1 ++ [.c true,.r [(4,q1 [.agg [L.arr .u64 4 x2]])],.s 1]) [3,4] [] (aM (ZbZ.snd c1) (neI 8) c2 (Zby.snd c3) (leI 0 0) (ltI 0 4)) (ZaK.p1_ok h6 hE)
  ·obtain ⟨x3,c4,h7⟩:=Zae h5
   exact aq fol (o1 ++ [.c false,.r [(4,q1 [.agg [L.arr .u64 4 x3]])],.s 1]) [3,4] [] (aM (ZbZ.snd c1) (neI 8) c2 (ZaZ.snd c4) (leI 0 0) (ltI 0 4)) (ZaK.p1_ok h7 hE)
noncomputable def Zbu.B:Code:=Tryz.f189.body.getD .skip
noncomputable def Zbu.rs (r:Int):List CV:=[oI r]
noncomputable def Zbu.p1 (N:Nat) (n_17:List Int):Option Int:=
 optE (ZaK N n_17) fun x18=>
 some x18
noncomputable def Zbu (N:Nat) (p_0:Zai) (bits_1 from_2 to_3:Int):Option Int:=
 optE (ZbV N bits_1 p_0.Limit) fun (x1,x2)=>
 optE (Zdu N p_0) fun x3=>
 if (!x3)=true then
  some p_0.Limit
 else
 if (!x2)=true then
  some p_0.Limit
 else
 optE (ZdO N p_0 from_2 to_3) fun x4=>
 optE (ZbS N x1 (v64 (w64 (p_0.Interval*p_0.Spacing)))) fun (x5,x6)=>
 optE (ZbG N x5 (v64 (x4))) fun (x7,x8)=>
 chk ((v64 (w64 (p_0.Interval*p_0.Spacing)))≠0)<|
 optE (ZcH N (v64 (Int.tdiv (v64 (x6*(v64 (x4)))) (v64 (w64 (p_0.Interval*p_0.Spacing)))))) fun x9=>
 optE (ZbC N x7 x9) fun (x10,x11)=>
 optE (ZbV N p_0.Limit p_0.Limit) fun (x12,x13)=>
 if x8=true then
  some p_0.Limit
 else
 if x11=true then
  some p_0.Limit
 else
 optE (Zco N x12 x10) fun x14=>
 if x14=true then
  some p_0.Limit
 else
 optE (Zcr N x10) fun x15=>
 if x15=true then
  optE (ZcH N 1) fun x16=>
  Zbu.p1 N x16
 else
 Zbu.p1 N x10
noncomputable def Zbu.p1.S (n_17:List Int) (st:LL):S:=mkS 94 [(15,sA 15)] [(15,.cells [L.arr .u64 4 n_17])] st
theorem Zbu.p1_ok {n_17 st r} (h:Zbu.p1 N n_17=some r) (hE:En Tryz.f189 g0 w0 (Zbu.rs r) st R):At g0 w0 (Zbu.p1.S n_17 st) (XK Tryz.prog R [.c (csub Zbu.B [1,1,1,1,1,1,1,1,1,1,1])]):=by
 unfold Zbu.p1 at h
 obtain ⟨x18,c19,h1⟩:=Zae h
 obtain rfl:=Zad h1
 exact af fol hE [.r [(1,q1 [oI x18])]] [] 0 [] (ZaK.snd c19)
theorem Zbu.snd {p_0:Zai} {bits_1 from_2 to_3:Int} {r:Int} (h:Zbu N p_0 bits_1 from_2 to_3=some r):SndQ Tryz.prog 189 [.agg p_0.ls,oI bits_1,oI from_2,oI to_3] (Zbu.rs r):=fun st=>
 sO Zbu.B Tryz.func189 fun g0 w0 R hE=>by
  unfold Zbu at h
  obtain ⟨⟨x1,x2⟩,c1,h2⟩:=Zae h
  obtain ⟨x3,c2,h3⟩:=Zae h2
  let o1:List PS:=[.r [],.r [(3,q1 [.agg [L.arr .u64 4 x1],oB x2])]]
  have t1 {Q:Prop} (q:Q):=aJ (ZbV.snd c1) (Zdu.snd c2) q
  refine iteB h3 (fun c3 h4=>?_) (fun c3 h5=>?_)
  ·obtain rfl:=Zad h4
   exact af fol hE (o1 ++ [.r [(1,q1 [oB x3]),(4,wF),(5,wF)],.c true,.r []]) [] 0 [] (t1 (aK (not_false (Zbh c3)) (not_false (Zbh c3)) (not_false (Zbh c3)) eT))
  ·let o2:List PS:=o1 ++ [.r [(1,q1 [oB x3]),(6,yF)]]
   have t2 {Q:Prop} (q:Q):=t1 (aK (not_true (Zbe c3)) (not_true (Zbe c3)) (not_true (Zbe c3)) q)
   refine iteB h5 (fun c4 h6=>?_) (fun c4 h7=>?_)
   ·obtain rfl:=Zad h6
    exact af fol hE (o2 ++ [.c true,.r []]) [] 0 [] (t2 c4)
   ·obtain ⟨x4,c5,h8⟩:=Zae h7
    obtain ⟨⟨x5,x6⟩,c6,h9⟩:=Zae h8
    obtain ⟨⟨x7,x8⟩,c7,h10⟩:=Zae h9
    obtain ⟨c8,h11⟩:=ZaO h10
    obtain ⟨x9,c9,h12⟩:=Zae h11
    obtain ⟨⟨x10,x11⟩,c10,h13⟩:=Zae h12
    obtain ⟨⟨x12,x13⟩,c11,h14⟩:=Zae h13
    let o3:List PS:=o2 ++ [.c false,.r [],.r [(3,q1 [oI x4])],.r [(2,q1 [.agg [L.arr .u64 4 x5],.one (L.int .u64 x6)])],.r [(2,q1 [.agg [L.arr .u64 4 x7],oB x8])],.d {ds:=[(6,q1 [.agg [L.arr .u64 4 x9]]),(7,q1 [.agg [L.arr .u64 4 x10],oB x11])],hv:=2048,Hs:=[2048]},.r [(4,q1 [.agg [L.arr .u64 4 x12],oB x13])]]
    have t3 {Q:Prop} (q:Q):=t2 (aO c4 (ZdO.snd c5) (ZbS.snd c6) (ZbG.snd c7) c8 (ZcH.snd c9) (ZbC.snd c10) (aI (ZbV.snd c11) q))
    refine iteB h14 (fun c12 h15=>?_) (fun c12 h16=>?_)
    ·obtain rfl:=Zad h15
     exact afd fol hE (o3 ++ [.r [(2,wF),(5,wF),(6,wF),(7,wF)],.c true,.r []]) [] 0 [] (t3 (aN c12 c12 eT eT eT eT eT))
    ·refine iteB h16 (fun c13 h17=>?_) (fun c13 h18=>?_)
     ·obtain rfl:=Zad h17
      exact afd fol hE (o3 ++ [.r [(3,yF),(5,wF),(6,wF),(7,wF)],.c true,.r []]) [] 0 [] (t3 (aN c12 c12 c13 c13 c13 c13 eT))
     ·obtain ⟨x14,c14,h19⟩:=Zae h18
      let o4:List PS:=o3 ++ [.r [(3,yF),(7,q1 [oB x14]),(8,yF)]]
      have t4 {Q:Prop} (q:Q):=t3 (aO c12 c12 c13 c13 c13 (Zco.snd c14) c13 q)
      refine iteB h19 (fun c15 h20=>?_) (fun c15 h21=>?_)
      ·obtain rfl:=Zad h20
       exact afd fol hE (o4 ++ [.c true,.r []]) [] 0 [] (t4 c15)
      ·obtain ⟨x15,c16,h22⟩:=Zae h21
       let o5:List PS:=o4 ++ [.c false,.r [(1,q1 [oB x15])]]
       refine iteB h22 (fun c17 h23=>?_) (fun c17 h24=>?_)
       ·obtain ⟨x16,c18,h25⟩:=Zae h23
        exact aqd fol (o5 ++ [.c true,.r [(0,q1 [.agg [L.arr .u64 4 x16]])],.s 1]) [15] [15] (t4 (aK c15 (Zcr.snd c16) c17 (ZcH.snd c18))) (Zbu.p1_ok h25 hE)
       ·exact aqd fol (o5 ++ [.c false,.s 1]) [15] [15] (t4 (aJ c15 (Zcr.snd c16) c17)) (Zbu.p1_ok h24 hE)
noncomputable def ZdP.B:Code:=Tryz.f149.body.getD .skip
noncomputable def ZdP.rs (r:Int):List CV:=[oI r]
noncomputable def ZdP (N:Nat) (p_0:Zai) (at_1:ZaQ) (time_2:Int):Option Int:=
 if (decide (at_1.Height≤0))=true then
  some p_0.Limit
 else
 optE (ZcD N p_0 at_1.Height) fun x1=>
 if x1=true then
  optE (Zbu N p_0 at_1.Bits at_1.First at_1.Time) fun x2=>
  some x2
 else
 if (!p_0.Easy)=true then
  some at_1.Bits
 else
 if (decide ((w64 (time_2-at_1.Time))>(w64 (2*p_0.Spacing))))=true then
  some p_0.Limit
 else
 some at_1.Hard
theorem ZdP.snd {p_0:Zai} {at_1:ZaQ} {time_2:Int} {r:Int} (h:ZdP N p_0 at_1 time_2=some r):SndQ Tryz.prog 149 [.agg p_0.ls,.agg at_1.ls,oI time_2] (ZdP.rs r):=fun st=>
 sO ZdP.B Tryz.func149 fun g0 w0 R hE=>by
  unfold ZdP at h
  refine iteB h (fun c1 h1=>?_) (fun c1 h2=>?_)
  ·obtain rfl:=Zad h1
   exact af fol hE [.r [],.r [],.c true,.r []] [] 0 [] c1
  ·obtain ⟨x1,c2,h3⟩:=Zae h2
   let o1:List PS:=[.r [],.r [],.c false,.r [(3,q1 [oB x1])]]
   have t1 {Q:Prop} (q:Q):=aJ c1 (ZcD.snd c2) q
   refine iteB h3 (fun c3 h4=>?_) (fun c3 h5=>?_)
   ·obtain ⟨x2,c4,h6⟩:=Zae h4
    obtain rfl:=Zad h6
    exact af fol hE (o1 ++ [.c true,.r [(7,q1 [oI x2])]]) [] 0 [] (t1 (aI c3 (Zbu.snd c4)))
   ·refine iteB h5 (fun c5 h7=>?_) (fun c5 h8=>?_)
    ·obtain rfl:=Zad h7
     exact af fol hE (o1 ++ [.c false,.r [],.c true,.r []]) [] 0 [] (t1 (aI c3 c5))
    ·refine iteB h8 (fun c6 h9=>?_) (fun c6 h10=>?_)
     ·obtain rfl:=Zad h9
      exact af fol hE (o1 ++ [.c false,.r [],.c false,.r [],.c true,.r []]) [] 0 [] (t1 (aJ c3 c5 c6))
     ·obtain rfl:=Zad h10
      exact af fol hE (o1 ++ [.c false,.r [],.c false,.r [],.c false,.r []]) [] 0 [] (t1 (aJ c3 c5 c6))
noncomputable def Zbm.B:Code:=Tryz.f217.body.getD .skip
noncomputable def Zbm.rs (r:(List Int)):List CV:=[.agg [L.arr .u64 4 r]]
noncomputable def Zbm.p1 (N:Nat) (h_0_0:List Int) (c1_:(Int×(List Int))→Option (List Int)):(Int×(List Int))→Option (List Int):=fun (v1,out_2)=>
 if (decide (v1<32))=true then
  chk (0≤v1)<|
  chk (0≤(w64 (Int.tdiv v1 8)))<|
  chk ((w64 (Int.tdiv v1 8))<4)<|
  chk (0≤(w64 (8*(Int.tmod v1 8))))<|
  c1_ (w64 (v1+1),List.set out_2 (Int.toNat (w64 (Int.tdiv v1 8))) (bitsOf .or .u64 (List.getD out_2 (Int.toNat (w64 (Int.tdiv v1 8))) 0) (shlOf .u64 (v64 (List.getD h_0_0 (Int.toNat v1) 0)) (w64 (8*(Int.tmod v1 8))))))
 else
 some out_2
noncomputable def Zbm (N:Nat) (h_0_0:List Int):Option (List Int):=
 loopN (Zbm.p1 N h_0_0) N (0,List.replicate 4 0)
noncomputable def Zbm.p1.S (h_0_0:List Int) (v1:Int) (out_2:List Int) (st:LL):S:=mkS 25 [(2,sA 2),(3,sA 3),(6,.agg [.l (L.arr .u8 32 h_0_0)]),(7,sI v1)] [(2,.cells [L.arr .u64 4 (List.replicate 4 0)]),(3,.cells [L.arr .u64 4 out_2])] st
theorem Zbm.p1_ok {h_0_0 v1 out_2 st r c1_ J1} (h:Zbm.p1 N h_0_0 c1_ (v1,out_2)=some r) (hE:En Tryz.f217 g0 w0 (Zbm.rs r) st R) (hc1 : ∀v1 out_2,c1_ (v1,out_2)=some r→At g0 w0 (Zbm.p1.S h_0_0 v1 out_2 st) J1):At g0 w0 (Zbm.p1.S h_0_0 v1 out_2 st) (XK Tryz.prog R (.c (csub Zbm.B [1,1,0,1,0,0]) :: .h J1 :: [.b 0,.c (csub Zbm.B [1,1,1])])):=by
 unfold Zbm.p1 at h
 refine iteB h (fun c6 h1=>?_) (fun c6 h2=>?_)
 ·obtain ⟨c7,c8,c9,c10,h3⟩:=ck4 h1
  exact and_ fol [.r [],.c true,.r [],.d {ds:=[],hv:=4096,Hs:=[4096]},.r []] [2,3,6,7] [2,3] (aO c6 c7 (oD c6) (neI 8) c8 c9 (neI 8) (aJ c10 c8 c9)) (hc1 (w64 (v1+1)) (List.set out_2 (Int.toNat (w64 (Int.tdiv v1 8))) (bitsOf .or .u64 (List.getD out_2 (Int.toNat (w64 (Int.tdiv v1 8))) 0) (shlOf .u64 (v64 (List.getD h_0_0 (Int.toNat v1) 0)) (w64 (8*(Int.tmod v1 8)))))) h3)
 ·obtain rfl:=Zad h2
  exact af fol hE [.r [],.c false,.r []] [] 0 [] c6
theorem Zbm.snd {h_0_0:List Int} {r:(List Int)} (h:Zbm N h_0_0=some r):SndQ Tryz.prog 217 [.agg [L.arr .u8 32 h_0_0]] (Zbm.rs r):=fun st=>
 sO Zbm.B Tryz.func217 fun g0 w0 R hE=>by
  unfold Zbm at h
  exact aq fol [.r [],.r [],.r []] [2,3,6,7] [2,3] trivial (At.loop N (At.loopN (fun y:Int×(List Int)=>Zbm.p1.S h_0_0 y.1 y.2 st) (fun c J hc y h=>Zbm.p1_ok (v1:=y.1) (out_2:=y.2) h hE (fun v1 out_2=>hc (v1,out_2))) N (0,List.replicate 4 0) h))
noncomputable def ZcI.B:Code:=Tryz.f190.body.getD .skip
noncomputable def ZcI.rs (r:Bool):List CV:=[oB r]
noncomputable def ZcI (N:Nat) (h_0_0 target_1_0:List Int):Option Bool:=
 optE (Zbm N h_0_0) fun x1=>
 optE (Zco N target_1_0 x1) fun x2=>
 some (!x2)
theorem ZcI.snd {h_0_0 target_1_0:List Int} {r:Bool} (h:ZcI N h_0_0 target_1_0=some r):SndQ Tryz.prog 190 [.agg [L.arr .u8 32 h_0_0],.agg [L.arr .u64 4 target_1_0]] (ZcI.rs r):=fun st=>
 sO ZcI.B Tryz.func190 fun g0 w0 R hE=>by
  unfold ZcI at h
  obtain ⟨x1,c1,h1⟩:=Zae h
  obtain ⟨x2,c2,h2⟩:=Zae h1
  obtain rfl:=Zad h2
  exact afd fol hE [.r [],.d {ds:=[(2,q1 [.agg [L.arr .u64 4 x1]]),(3,q1 [oB x2])],hv:=0,Hs:=[]}] [] 0 [] (aI (Zbm.snd c1) (Zco.snd c2))
noncomputable def Zdd.B:Code:=Tryz.f150.body.getD .skip
noncomputable def Zdd.rs (r:Int):List CV:=[oI r]
noncomputable def Zdd (N:Nat) (p_0:Zai) (h_1:Zac):Option Int:=
 optE (Zcg N h_1) fun x1=>
 if (!x1)=true then
  some 1
 else
 optE (ZbV N h_1.Bits p_0.Limit) fun (x2,x3)=>
 if (!x3)=true then
  some 4
 else
 optE (ZcT N h_1) fun x4=>
 optE (ZcI N x4 x2) fun x5=>
 if (!x5)=true then
  some 4
 else
 some 0
theorem Zdd.snd {p_0:Zai} {h_1:Zac} {r:Int} (h:Zdd N p_0 h_1=some r):SndQ Tryz.prog 150 [.agg p_0.ls,.agg h_1.ls] (Zdd.rs r):=fun st=>
 sO Zdd.B Tryz.func150 fun g0 w0 R hE=>by
  unfold Zdd at h
  obtain ⟨x1,c1,h1⟩:=Zae h
  let o1:List PS:=[.r [],.r [(1,q1 [oB x1])]]
  have t1 {Q:Prop} (q:Q):=aI (Zcg.snd c1) q
  refine iteB h1 (fun c2 h2=>?_) (fun c2 h3=>?_)
  ·obtain rfl:=Zad h2
   exact af fol hE (o1 ++ [.c true,.r []]) [] 0 [] (t1 c2)
  ·obtain ⟨⟨x2,x3⟩,c3,h4⟩:=Zae h3
   let o2:List PS:=o1 ++ [.c false,.r [(4,q1 [.agg [L.arr .u64 4 x2],oB x3])]]
   have t2 {Q:Prop} (q:Q):=t1 (aJ c2 (ZbV.snd c3) q)
   refine iteB h4 (fun c4 h5=>?_) (fun c4 h6=>?_)
   ·obtain rfl:=Zad h5
    exact afd fol hE (o2 ++ [.d {ds:=[(3,wF),(4,wF),(5,wF),(6,wF),(7,wF)],hv:=0,Hs:=[]},.c true,.r []]) [] 0 [] (t2 (aN (not_false (Zbh c4)) (not_false (Zbh c4)) (not_false (Zbh c4)) (not_false (Zbh c4)) (not_false (Zbh c4)) (not_false (Zbh c4)) eT))
   ·obtain ⟨x4,c5,h7⟩:=Zae h6
    obtain ⟨x5,c6,h8⟩:=Zae h7
    let o3:List PS:=o2 ++ [.d {ds:=[(4,q1 [.agg [L.arr .u8 32 x4]]),(6,q1 [oB x5]),(8,yF)],hv:=0,Hs:=[]}]
    have t3 {Q:Prop} (q:Q):=t2 (aO (not_true (Zbe c4)) (not_true (Zbe c4)) (ZcT.snd c5) (not_true (Zbe c4)) (not_true (Zbe c4)) (ZcI.snd c6) (not_true (Zbe c4)) (aI (not_true (Zbe c4)) q))
    refine iteB h8 (fun c7 h9=>?_) (fun c7 h10=>?_)
    ·obtain rfl:=Zad h9
     exact afd fol hE (o3 ++ [.c true,.r []]) [] 0 [] (t3 c7)
    ·obtain rfl:=Zad h10
     exact afd fol hE (o3 ++ [.c false,.r []]) [] 0 [] (t3 c7)
noncomputable def ZcO.B:Code:=Tryz.f151.body.getD .skip
noncomputable def ZcO.rs (r:Bool):List CV:=[oB r]
noncomputable def ZcO (N:Nat) (time_0:Int) (times_1:LL):Option Bool:=
 if ((len times_1)==0)=true then
  some true
 else
 optE (Zdv N times_1) fun x1=>
 some (decide (time_0>x1))
theorem ZcO.snd {time_0:Int} {times_1:LL} {r:Bool} (h:ZcO N time_0 times_1=some r):SndQ Tryz.prog 151 [oI time_0,.one (L.sl 1 times_1)] (ZcO.rs r):=fun st=>
 sO ZcO.B Tryz.func151 fun g0 w0 R hE=>by
  unfold ZcO at h
  refine iteB h (fun c1 h1=>?_) (fun c1 h2=>?_)
  ·obtain rfl:=Zad h1
   exact af fol hE [.r [],.r [(4,wF),(5,wF),(6,wF),(7,wF)]] [] 0 [] (aL c1 c1 c1 c1 c1)
  ·obtain ⟨x1,c2,h3⟩:=Zae h2
   obtain rfl:=Zad h3
   exact af fol hE [.r [],.r [(6,q1 [oI x1]),(8,yF)]] [] 0 [] (aM c1 c1 c1 (Zdv.snd c2) c1 c1)
noncomputable def Zdg.B:Code:=Tryz.f152.body.getD .skip
noncomputable def Zdg.rs (r:Bool):List CV:=[oB r]
noncomputable def Zdg (N:Nat) (time_0 now_1 future_2:Int):Option Bool:=
 if (decide (future_2≥0))=true then
  if (decide (time_0≤now_1))=true then
   some true
  else
  some (decide ((w64 (time_0-now_1))≤future_2))
 else
 some false
theorem Zdg.snd {time_0 now_1 future_2:Int} {r:Bool} (h:Zdg N time_0 now_1 future_2=some r):SndQ Tryz.prog 152 [oI time_0,oI now_1,oI future_2] (Zdg.rs r):=fun st=>
 sO Zdg.B Tryz.func152 fun g0 w0 R hE=>by
  unfold Zdg at h
  refine iteB h (fun c1 h1=>?_) (fun c1 h2=>?_)
  ·refine iteB h1 (fun c2 h3=>?_) (fun c2 h4=>?_)
   ·obtain rfl:=Zad h3
    exact af fol hE [.r [],.r [(7,wF),(8,wF),(9,wF),(10,wF),(11,wF)]] [] 0 [] (aO c1 c1 c1 c1 c2 c2 c2 (aL c2 c2 c1 c2 c1))
   ·obtain rfl:=Zad h4
    exact af fol hE [.r [],.r [(12,yF)]] [] 0 [] (aO c1 c1 c1 c1 c2 c2 c2 (aL c2 c2 c1 c2 c1))
  ·obtain rfl:=Zad h2
   exact af fol hE [.r [],.r [(3,wF),(4,wF),(5,wF),(6,wF),(12,wF),(13,yF)]] [] 0 [] (aM c1 c1 c1 c1 c1 c1)
noncomputable def ZaS.B:Code:=Tryz.f153.body.getD .skip
noncomputable def ZaS.rs (r:Int):List CV:=[oI r]
noncomputable def ZaS.p2 (N:Nat) (c1_:(Int×Int)→Option Int) (height_0 least_4:Int) (gates_1:LL) (v2:Int):Option Int:=
 c1_ (least_4,w64 (v2+1))
noncomputable def ZaS.p1 (N:Nat) (height_0:Int) (gates_1:LL) (c1_:(Int×Int)→Option Int):(Int×Int)→Option Int:=fun (least_1,v2)=>
 if (decide (v2<(len gates_1)))=true then
  chk (0≤v2)<|
  getE (gates_1[Int.toNat v2]?) ZdA fun x3=>
  if (decide (height_0≥x3.Height))=true then
   ZaS.p2 N c1_ height_0 (if x3.Version>least_1 then x3.Version else least_1) gates_1 v2
  else
  ZaS.p2 N c1_ height_0 least_1 gates_1 v2
 else
 some least_1
noncomputable def ZaS (N:Nat) (height_0:Int) (gates_1:LL):Option Int:=
 loopN (ZaS.p1 N height_0 gates_1) N ((-2147483648),0)
noncomputable def ZaS.p2.S (height_0 least_4:Int) (gates_1:LL) (v2:Int) (st:LL):S:=mkS 24 [(0,sI height_0),(5,sI least_4),(8,sV 2 gates_1),(9,sI (len gates_1)),(10,sI v2)] [] st
noncomputable def ZaS.p1.S (height_0 least_1:Int) (gates_1:LL) (v2:Int) (st:LL):S:=mkS 24 [(0,sI height_0),(5,sI least_1),(8,sV 2 gates_1),(9,sI (len gates_1)),(10,sI v2)] [] st
theorem ZaS.p2_ok {height_0 least_4 gates_1 v2 st r c1_ J1} (h:ZaS.p2 N c1_ height_0 least_4 gates_1 v2=some r) (hE:En Tryz.f153 g0 w0 (ZaS.rs r) st R) (hc1 : ∀least_1 v2,c1_ (least_1,v2)=some r→At g0 w0 (ZaS.p1.S height_0 least_1 gates_1 v2 st) J1):At g0 w0 (ZaS.p2.S height_0 least_4 gates_1 v2 st) (XK Tryz.prog R [.c (csub ZaS.B [1,1,0,1,0,0,1,1,1]),.h J1,.b 0,.c (csub ZaS.B [1,1,1])]):=by
 unfold ZaS.p2 at h
 exact an fol [.r []] [0,5,8,9,10] [] trivial (hc1 least_4 (w64 (v2+1)) h)
theorem ZaS.p1_ok {height_0 least_1 gates_1 v2 st r c1_ J1} (h:ZaS.p1 N height_0 gates_1 c1_ (least_1,v2)=some r) (hE:En Tryz.f153 g0 w0 (ZaS.rs r) st R) (hc1 : ∀least_1 v2,c1_ (least_1,v2)=some r→At g0 w0 (ZaS.p1.S height_0 least_1 gates_1 v2 st) J1):At g0 w0 (ZaS.p1.S height_0 least_1 gates_1 v2 st) (XK Tryz.prog R (.c (csub ZaS.B [1,1,0,1,0,0]) :: .h J1 :: [.b 0,.c (csub ZaS.B [1,1,1])])):=by
 unfold ZaS.p1 at h
 refine iteB h (fun c1 h1=>?_) (fun c1 h2=>?_)
 ·obtain ⟨c2,h3⟩:=ZaO h1
  obtain ⟨x3,c3,h4⟩:=ZdE h3
  let o1:List PS:=[.r [],.c true,.r [(1,{oe:=x3.ls})],.r []]
  refine iteB h4 (fun c4 h5=>?_) (fun c4 h6=>?_)
  ·exact aq fol (o1 ++ [.c true,.r [],.s 4]) [0,5,8,9,10] [] (aL c1 c2 (oD c1) c3 c4) (ZaS.p2_ok h5 hE hc1)
  ·exact aq fol (o1 ++ [.c false,.s 4]) [0,5,8,9,10] [] (aL c1 c2 (oD c1) c3 c4) (ZaS.p2_ok h6 hE hc1)
 ·obtain rfl:=Zad h2
  exact af fol hE [.r [],.c false,.r []] [] 0 [] c1
theorem ZaS.snd {height_0:Int} {gates_1:LL} {r:Int} (h:ZaS N height_0 gates_1=some r):SndQ Tryz.prog 153 [oI height_0,.one (L.sl 2 gates_1)] (ZaS.rs r):=fun st=>
 sO ZaS.B Tryz.func153 fun g0 w0 R hE=>by
  unfold ZaS at h
  exact aq fol [.r [],.r [],.r []] [0,5,8,9,10] [] trivial (At.loop N (At.loopN (fun y:Int×Int=>ZaS.p1.S height_0 y.1 gates_1 y.2 st) (fun c J hc y h=>ZaS.p1_ok (least_1:=y.1) (v2:=y.2) h hE (fun least_1 v2=>hc (least_1,v2))) N ((-2147483648),0) h))
noncomputable def ZbF.B:Code:=Tryz.f154.body.getD .skip
noncomputable def ZbF.rs (r:Bool):List CV:=[oB r]
noncomputable def ZbF.p1 (N:Nat) (height_0:Int) (checks_2:LL) (id_1_0:List Int) (c1_:Int→Option Bool):Int→Option Bool:=fun v1=>
 if (decide (v1<(len checks_2)))=true then
  chk (0≤v1)<|
  getE (checks_2[Int.toNat v1]?) Zdp fun x2=>
  if (x2.Height==height_0)=true then
   if (!(x2.Id==id_1_0))=true then
    some false
   else
   c1_ (w64 (v1+1))
  else
  c1_ (w64 (v1+1))
 else
 some true
noncomputable def ZbF (N:Nat) (height_0:Int) (id_1_0:List Int) (checks_2:LL):Option Bool:=
 loopN (ZbF.p1 N height_0 checks_2 id_1_0) N 0
noncomputable def ZbF.p1.S (height_0:Int) (checks_2:LL) (v1:Int) (id_1_0:List Int) (st:LL):S:=mkS 26 [(0,sI height_0),(4,sA 4),(9,sV 33 checks_2),(10,sI (len checks_2)),(11,sI v1)] [(4,.cells [L.arr .u8 32 id_1_0])] st
theorem ZbF.p1_ok {height_0 checks_2 v1 id_1_0 st r c1_ J1} (h:ZbF.p1 N height_0 checks_2 id_1_0 c1_ v1=some r) (hE:En Tryz.f154 g0 w0 (ZbF.rs r) st R) (hc1 : ∀v1,c1_ v1=some r→At g0 w0 (ZbF.p1.S height_0 checks_2 v1 id_1_0 st) J1):At g0 w0 (ZbF.p1.S height_0 checks_2 v1 id_1_0 st) (XK Tryz.prog R (.c (csub ZbF.B [1,0,1,0,0]) :: .h J1 :: [.b 0,.c (csub ZbF.B [1,1])])):=by
 unfold ZbF.p1 at h
 refine iteB h (fun c1 h1=>?_) (fun c1 h2=>?_)
 ·obtain ⟨c2,h3⟩:=ZaO h1
  obtain ⟨x2,c3,h4⟩:=Zdy h3
  let o1:List PS:=[.r [],.c true,.r [(1,{oe:=x2.ls})]]
  refine iteB h4 (fun c4 h5=>?_) (fun c4 h6=>?_)
  ·have t1 {Q:Prop} (q:Q):=aO c1 c2 (oD c1) c3 c4 c4 c4 (aJ c4 c4 q)
   refine iteB h5 (fun c5 h7=>?_) (fun c5 h8=>?_)
   ·obtain rfl:=Zad h7
    exact af fol hE (o1 ++ [.r [],.c true,.r []]) [] 0 [] (t1 c5)
   ·exact an fol (o1 ++ [.r [],.c false,.r []]) [0,4,9,10,11] [4] (t1 c5) (hc1 (w64 (v1+1)) h8)
  ·exact an fol (o1 ++ [.r [(5,wF),(6,wF),(7,wF),(8,wF),(9,yF)],.c false,.r []]) [0,4,9,10,11] [4] (aO c1 c2 (oD c1) c3 c4 c4 c4 (aJ c4 c4 eF)) (hc1 (w64 (v1+1)) h6)
 ·obtain rfl:=Zad h2
  exact af fol hE [.r [],.c false,.r []] [] 0 [] c1
theorem ZbF.snd {height_0:Int} {id_1_0:List Int} {checks_2:LL} {r:Bool} (h:ZbF N height_0 id_1_0 checks_2=some r):SndQ Tryz.prog 154 [oI height_0,.agg [L.arr .u8 32 id_1_0],.one (L.sl 33 checks_2)] (ZbF.rs r):=fun st=>
 sO ZbF.B Tryz.func154 fun g0 w0 R hE=>by
  unfold ZbF at h
  exact aq fol [.r [],.r []] [0,4,9,10,11] [4] trivial (At.loop N (At.loopN (fun y:Int=>ZbF.p1.S height_0 checks_2 y id_1_0 st) (fun c J hc y h=>ZbF.p1_ok h hE (fun v1=>hc v1)) N 0 h))
noncomputable def ZcZ.B:Code:=Tryz.f92.body.getD .skip
noncomputable def ZcZ.rs (r:Int):List CV:=[oI r]
noncomputable def ZcZ (N:Nat) (p_0:Zai) (at_1:Zat) (h_2:Zac) (now_3:Int):Option Int:=
 optE (Zcg N h_2) fun x1=>
 if (!x1)=true then
  some 1
 else
 if (!(h_2.Prev==at_1.Prev))=true then
  some 2
 else
 optE (ZdP N p_0 at_1.Point h_2.Time) fun x2=>
 if (h_2.Bits != x2)=true then
  some 3
 else
 optE (Zdd N p_0 h_2) fun x3=>
 if (x3 != 0)=true then
  some 4
 else
 optE (ZcO N h_2.Time at_1.Times) fun x4=>
 if (!x4)=true then
  some 5
 else
 optE (Zdg N h_2.Time now_3 p_0.Future) fun x5=>
 if (!x5)=true then
  some 6
 else
 optE (ZaS N at_1.Point.Height p_0.Gates) fun x6=>
 if (decide (h_2.Version<x6))=true then
  some 7
 else
 optE (ZcT N h_2) fun x7=>
 optE (ZbF N at_1.Point.Height x7 p_0.Checks) fun x8=>
 if (!x8)=true then
  some 8
 else
 some 0
theorem ZcZ.snd {p_0:Zai} {at_1:Zat} {h_2:Zac} {now_3:Int} {r:Int} (h:ZcZ N p_0 at_1 h_2 now_3=some r):SndQ Tryz.prog 92 [.agg p_0.ls,.agg at_1.ls,.agg h_2.ls,oI now_3] (ZcZ.rs r):=fun st=>
 sO ZcZ.B Tryz.func92 fun g0 w0 R hE=>by
  unfold ZcZ at h
  obtain ⟨x1,c1,h1⟩:=Zae h
  let o1:List PS:=[.r [],.r [(1,q1 [oB x1])]]
  have t1 {Q:Prop} (q:Q):=aI (Zcg.snd c1) q
  refine iteB h1 (fun c2 h2=>?_) (fun c2 h3=>?_)
  ·obtain rfl:=Zad h2
   exact af fol hE (o1 ++ [.c true,.r []]) [] 0 [] (t1 c2)
  ·let o2:List PS:=o1 ++ [.c false,.r []]
   refine iteB h3 (fun c3 h4=>?_) (fun c3 h5=>?_)
   ·obtain rfl:=Zad h4
    exact af fol hE (o2 ++ [.c true,.r []]) [] 0 [] (t1 (aI c2 c3))
   ·obtain ⟨x2,c4,h6⟩:=Zae h5
    let o3:List PS:=o2 ++ [.c false,.d {ds:=[(7,q1 [oI x2])],hv:=0,Hs:=[]}]
    have t2 {Q:Prop} (q:Q):=t1 (aK c2 c3 (ZdP.snd c4) q)
    refine iteB h6 (fun c5 h7=>?_) (fun c5 h8=>?_)
    ·obtain rfl:=Zad h7
     exact afd fol hE (o3 ++ [.c true,.r []]) [] 0 [] (t2 c5)
    ·obtain ⟨x3,c6,h9⟩:=Zae h8
     let o4:List PS:=o3 ++ [.c false,.r [(2,q1 [oI x3])]]
     have t3 {Q:Prop} (q:Q):=t2 (aJ c5 (Zdd.snd c6) q)
     refine iteB h9 (fun c7 h10=>?_) (fun c7 h11=>?_)
     ·obtain rfl:=Zad h10
      exact afd fol hE (o4 ++ [.c true,.r []]) [] 0 [] (t3 c7)
     ·obtain ⟨x4,c8,h12⟩:=Zae h11
      let o5:List PS:=o4 ++ [.c false,.r [(4,q1 [oB x4])]]
      have t4 {Q:Prop} (q:Q):=t3 (aJ c7 (ZcO.snd c8) q)
      refine iteB h12 (fun c9 h13=>?_) (fun c9 h14=>?_)
      ·obtain rfl:=Zad h13
       exact afd fol hE (o5 ++ [.c true,.r []]) [] 0 [] (t4 c9)
      ·obtain ⟨x5,c10,h15⟩:=Zae h14
       let o6:List PS:=o5 ++ [.c false,.r [(5,q1 [oB x5])]]
       have t5 {Q:Prop} (q:Q):=t4 (aJ c9 (Zdg.snd c10) q)
       refine iteB h15 (fun c11 h16=>?_) (fun c11 h17=>?_)
       ·obtain rfl:=Zad h16
        exact afd fol hE (o6 ++ [.c true,.r []]) [] 0 [] (t5 c11)
       ·obtain ⟨x6,c12,h18⟩:=Zae h17
        let o7:List PS:=o6 ++ [.c false,.d {ds:=[(7,q1 [oI x6])],hv:=0,Hs:=[]}]
        have t6 {Q:Prop} (q:Q):=t5 (aJ c11 (ZaS.snd c12) q)
        refine iteB h18 (fun c13 h19=>?_) (fun c13 h20=>?_)
        ·obtain rfl:=Zad h19
         exact afd fol hE (o7 ++ [.c true,.r []]) [] 0 [] (t6 c13)
        ·obtain ⟨x7,c14,h21⟩:=Zae h20
         obtain ⟨x8,c15,h22⟩:=Zae h21
         let o8:List PS:=o7 ++ [.c false,.d {ds:=[(4,q1 [.agg [L.arr .u8 32 x7]]),(7,q1 [oB x8])],hv:=0,Hs:=[]}]
         have t7 {Q:Prop} (q:Q):=t6 (aK c13 (ZcT.snd c14) (ZbF.snd c15) q)
         refine iteB h22 (fun c16 h23=>?_) (fun c16 h24=>?_)
         ·obtain rfl:=Zad h23
          exact afd fol hE (o8 ++ [.c true,.r []]) [] 0 [] (t7 c16)
         ·obtain rfl:=Zad h24
          exact afd fol hE (o8 ++ [.c false,.r []]) [] 0 [] (t7 c16)
noncomputable def ZbR.B:Code:=Tryz.f175.body.getD .skip
noncomputable def ZbR.rs (r:(List Int)):List CV:=[.agg [L.arr .u64 4 r]]
noncomputable def ZbR.p1 (N:Nat) (c1_:(Int×(List Int))→Option (List Int)):(Int×(List Int))→Option (List Int):=fun (v1,a_2)=>
 if (decide (v1<4))=true then
  chk (0≤v1)<|
  c1_ (w64 (v1+1),List.set a_2 (Int.toNat v1) (bitsOf .xor .u64 (IntKind.max IntKind.u64) (List.getD a_2 (Int.toNat v1) 0)))
 else
 some a_2
noncomputable def ZbR (N:Nat) (a_0_0:List Int):Option (List Int):=
 loopN (ZbR.p1 N) N (0,a_0_0)
noncomputable def ZbR.p1.S (v1:Int) (a_2:List Int) (st:LL):S:=mkS 15 [(1,sA 1),(2,sA 2),(4,sI v1)] [(1,.cells [L.arr .u64 4 a_2]),(2,.cells [L.arr .u64 4 (List.replicate 4 0)])] st
theorem ZbR.p1_ok {v1 a_2 st r c1_ J1} (h:ZbR.p1 N c1_ (v1,a_2)=some r) (hE:En Tryz.f175 g0 w0 (ZbR.rs r) st R) (hc1 : ∀v1 a_2,c1_ (v1,a_2)=some r→At g0 w0 (ZbR.p1.S v1 a_2 st) J1):At g0 w0 (ZbR.p1.S v1 a_2 st) (XK Tryz.prog R (.c (csub ZbR.B [1,0,1,0,0]) :: .h J1 :: [.b 0,.c (csub ZbR.B [1,1])])):=by
 unfold ZbR.p1 at h
 refine iteB h (fun c3 h1=>?_) (fun c3 h2=>?_)
 ·obtain ⟨c4,h3⟩:=ZaO h1
  exact an fol [.r [],.c true,.r [],.r [],.r []] [1,2,4] [1,2] (aL c3 c4 (oD c3) c4 (oD c3)) (hc1 (w64 (v1+1)) (List.set a_2 (Int.toNat v1) (bitsOf .xor .u64 (IntKind.max IntKind.u64) (List.getD a_2 (Int.toNat v1) 0))) h3)
 ·obtain rfl:=Zad h2
  exact af fol hE [.r [],.c false,.r []] [] 0 [] c3
theorem ZbR.snd {a_0_0:List Int} {r:(List Int)} (h:ZbR N a_0_0=some r):SndQ Tryz.prog 175 [.agg [L.arr .u64 4 a_0_0]] (ZbR.rs r):=fun st=>
 sO ZbR.B Tryz.func175 fun g0 w0 R hE=>by
  unfold ZbR at h
  exact aq fol [.r [],.r []] [1,2,4] [1,2] trivial (At.loop N (At.loopN (fun y:Int×(List Int)=>ZbR.p1.S y.1 y.2 st) (fun c J hc y h=>ZbR.p1_ok (v1:=y.1) (a_2:=y.2) h hE (fun v1 a_2=>hc (v1,a_2))) N (0,a_0_0) h))
noncomputable def Zcd.B:Code:=Tryz.f207.body.getD .skip
noncomputable def Zcd.rs (r:(List Int)×Bool):List CV:=[.agg [L.arr .u64 4 r.1],oB r.2]
noncomputable def Zcd.p1 (N:Nat) (b_1_0:List Int) (c1_:(Int×Int×(List Int))→Option ((List Int)×Bool)):(Int×Int×(List Int))→Option ((List Int)×Bool):=fun (c_1,v2,a_5)=>
 if (decide (v2<4))=true then
  chk (0≤v2)<|
  optE (ZdX N (List.getD a_5 (Int.toNat v2) 0) (List.getD b_1_0 (Int.toNat v2) 0) c_1) fun (x6,x7)=>
  c1_ (x7,w64 (v2+1),List.set a_5 (Int.toNat v2) x6)
 else
 some (a_5,c_1 != 0)
noncomputable def Zcd (N:Nat) (a_0_0 b_1_0:List Int):Option ((List Int)×Bool):=
 loopN (Zcd.p1 N b_1_0) N (0,0,a_0_0)
noncomputable def Zcd.p1.S (c_1 v2:Int) (a_5 b_1_0:List Int) (st:LL):S:=mkS 28 [(2,sA 2),(3,sA 3),(4,sA 4),(6,.one (.l (L.int .u64 c_1))),(8,sI v2)] [(2,.cells [L.arr .u64 4 a_5]),(3,.cells [L.arr .u64 4 b_1_0]),(4,.cells [L.arr .u64 4 (List.replicate 4 0)])] st
theorem Zcd.p1_ok {c_1 v2 a_5 b_1_0 st r c1_ J1} (h:Zcd.p1 N b_1_0 c1_ (c_1,v2,a_5)=some r) (hE:En Tryz.f207 g0 w0 (Zcd.rs r) st R) (hc1 : ∀c_1 v2 a_5,c1_ (c_1,v2,a_5)=some r→At g0 w0 (Zcd.p1.S c_1 v2 a_5 b_1_0 st) J1):At g0 w0 (Zcd.p1.S c_1 v2 a_5 b_1_0 st) (XK Tryz.prog R (.c (csub Zcd.B [1,1,0,1,0,0]) :: .h J1 :: [.b 0,.c (csub Zcd.B [1,1,1])])):=by
 unfold Zcd.p1 at h
 refine iteB h (fun c4 h1=>?_) (fun c4 h2=>?_)
 ·obtain ⟨c5,h3⟩:=ZaO h1
  obtain ⟨⟨x6,x7⟩,c6,h4⟩:=Zae h3
  exact and_ fol [.r [],.c true,.r [],.d {ds:=[(8,{rs:=[.one (L.int .u64 x6),.one (L.int .u64 x7)],m:=4})],hv:=8192,Hs:=[8192]},.r []] [2,3,4,6,8] [2,3,4] (aO c4 c5 (oD c4) c5 (oD c4) (ZdX.snd c6) c5 (oD c4)) (hc1 x7 (w64 (v2+1)) (List.set a_5 (Int.toNat v2) x6) h4)
 ·obtain rfl:=Zad h2
  exact af fol hE [.r [],.c false,.r []] [] 0 [] c4
theorem Zcd.snd {a_0_0 b_1_0:List Int} {r:(List Int)×Bool} (h:Zcd N a_0_0 b_1_0=some r):SndQ Tryz.prog 207 [.agg [L.arr .u64 4 a_0_0],.agg [L.arr .u64 4 b_1_0]] (Zcd.rs r):=fun st=>
 sO Zcd.B Tryz.func207 fun g0 w0 R hE=>by
  unfold Zcd at h
  exact aq fol [.r [],.r [],.r []] [2,3,4,6,8] [2,3,4] trivial (At.loop N (At.loopN (fun y:Int×Int×(List Int)=>Zcd.p1.S y.1 y.2.1 y.2.2 b_1_0 st) (fun c J hc y h=>Zcd.p1_ok (c_1:=y.1) (v2:=y.2.1) (a_5:=y.2.2) h hE (fun c_1 v2 a_5=>hc (c_1,v2,a_5))) N (0,0,a_0_0) h))
noncomputable def Zbo.B:Code:=Tryz.f179.body.getD .skip
noncomputable def Zbo.rs (r:(List Int)×(List Int)):List CV:=[.agg [L.arr .u64 4 r.1],.agg [L.arr .u64 4 r.2]]
noncomputable def Zbo.p2 (N:Nat) (c1_:(Int×(List Int)×(List Int))→Option ((List Int)×(List Int))) (i_3:Int) (a_0_0 by_1_0 out_21 rest_20:List Int):Option ((List Int)×(List Int)):=
 c1_ (w64 (i_3-1),out_21,rest_20)
noncomputable def Zbo.p1 (N:Nat) (a_0_0 by_1_0:List Int) (c1_:(Int×(List Int)×(List Int))→Option ((List Int)×(List Int))):(Int×(List Int)×(List Int))→Option ((List Int)×(List Int)):=fun (i_3,out_12,rest_13)=>
 if (decide (i_3≥0))=true then
  optE (Zby N rest_13 1) fun x14=>
  chk (0≤(w64 (Int.tdiv i_3 64)))<|
  chk ((w64 (Int.tdiv i_3 64))<4)<|
  chk (0≤(Int.tmod i_3 64))<|
  if ((shrOf .u64 (List.getD rest_13 3 0) 63)==1)=true then
   optE (Zcd N (List.set x14 0 (bitsOf .or .u64 (List.getD x14 0 0) (bitsOf .and .u64 (shrOf .u64 (List.getD a_0_0 (Int.toNat (w64 (Int.tdiv i_3 64))) 0) (Int.tmod i_3 64)) 1))) by_1_0) fun (x15,x16)=>
   Zbo.p2 N c1_ i_3 a_0_0 by_1_0 (List.set out_12 (Int.toNat (w64 (Int.tdiv i_3 64))) (bitsOf .or .u64 (List.getD out_12 (Int.toNat (w64 (Int.tdiv i_3 64))) 0) (shlOf .u64 1 (Int.tmod i_3 64)))) x15
  else
  optE (Zco N (List.set x14 0 (bitsOf .or .u64 (List.getD x14 0 0) (bitsOf .and .u64 (shrOf .u64 (List.getD a_0_0 (Int.toNat (w64 (Int.tdiv i_3 64))) 0) (Int.tmod i_3 64)) 1))) by_1_0) fun x17=>
  if (!x17)=true then
   optE (Zcd N (List.set x14 0 (bitsOf .or .u64 (List.getD x14 0 0) (bitsOf .and .u64 (shrOf .u64 (List.getD a_0_0 (Int.toNat (w64 (Int.tdiv i_3 64))) 0) (Int.tmod i_3 64)) 1))) by_1_0) fun (x18,x19)=>
   Zbo.p2 N c1_ i_3 a_0_0 by_1_0 (List.set out_12 (Int.toNat (w64 (Int.tdiv i_3 64))) (bitsOf .or .u64 (List.getD out_12 (Int.toNat (w64 (Int.tdiv i_3 64))) 0) (shlOf .u64 1 (Int.tmod i_3 64)))) x18
  else
  Zbo.p2 N c1_ i_3 a_0_0 by_1_0 out_12 (List.set x14 0 (bitsOf .or .u64 (List.getD x14 0 0) (bitsOf .and .u64 (shrOf .u64 (List.getD a_0_0 (Int.toNat (w64 (Int.tdiv i_3 64))) 0) (Int.tmod i_3 64)) 1)))
 else
 some (out_12,rest_13)
noncomputable def Zbo (N:Nat) (a_0_0 by_1_0:List Int):Option ((List Int)×(List Int)):=
 optE (Zcr N by_1_0) fun x1=>
 if x1=true then
  some (List.replicate 4 0,List.replicate 4 0)
 else
 optE (ZbZ N a_0_0) fun x2=>
 loopN (Zbo.p1 N a_0_0 by_1_0) N (w64 (x2-1),List.replicate 4 0,List.replicate 4 0)
noncomputable def Zbo.p2.S (i_3:Int) (a_0_0 by_1_0 out_21 rest_20:List Int) (st:LL):S:=mkS 63 [(2,sA 2),(3,sA 3),(4,sA 4),(5,sA 5),(6,sA 6),(7,sA 7),(8,sI i_3)] [(2,.cells [L.arr .u64 4 a_0_0]),(3,.cells [L.arr .u64 4 by_1_0]),(4,.cells [L.arr .u64 4 (List.replicate 4 0)]),(5,.cells [L.arr .u64 4 (List.replicate 4 0)]),(6,.cells [L.arr .u64 4 out_21]),(7,.cells [L.arr .u64 4 rest_20])] st
noncomputable def Zbo.p1.S (i_3:Int) (a_0_0 by_1_0 out_12 rest_13:List Int) (st:LL):S:=mkS 63 [(2,sA 2),(3,sA 3),(4,sA 4),(5,sA 5),(6,sA 6),(7,sA 7),(8,sI i_3)] [(2,.cells [L.arr .u64 4 a_0_0]),(3,.cells [L.arr .u64 4 by_1_0]),(4,.cells [L.arr .u64 4 (List.replicate 4 0)]),(5,.cells [L.arr .u64 4 (List.replicate 4 0)]),(6,.cells [L.arr .u64 4 out_12]),(7,.cells [L.arr .u64 4 rest_13])] st
theorem Zbo.p2_ok {i_3 a_0_0 by_1_0 out_21 rest_20 st r c1_ J1} (h:Zbo.p2 N c1_ i_3 a_0_0 by_1_0 out_21 rest_20=some r) (hE:En Tryz.f179 g0 w0 (Zbo.rs r) st R) (hc1 : ∀i_3 out_12 rest_13,c1_ (i_3,out_12,rest_13)=some r→At g0 w0 (Zbo.p1.S i_3 a_0_0 by_1_0 out_12 rest_13 st) J1):At g0 w0 (Zbo.p2.S i_3 a_0_0 by_1_0 out_21 rest_20 st) (XK Tryz.prog R [.c (csub Zbo.B [1,1,1,0,1,0,0,1,1]),.h J1,.b 0,.c (csub Zbo.B [1,1,1,1])]):=by
 unfold Zbo.p2 at h
 exact an fol [.r []] [2,3,4,5,6,7,8] [2,3,4,5,6,7] trivial (hc1 (w64 (i_3-1)) out_21 rest_20 h)
theorem Zbo.p1_ok {i_3 a_0_0 by_1_0 out_12 rest_13 st r c1_ J1} (h:Zbo.p1 N a_0_0 by_1_0 c1_ (i_3,out_12,rest_13)=some r) (hE:En Tryz.f179 g0 w0 (Zbo.rs r) st R) (hc1 : ∀i_3 out_12 rest_13,c1_ (i_3,out_12,rest_13)=some r→At g0 w0 (Zbo.p1.S i_3 a_0_0 by_1_0 out_12 rest_13 st) J1):At g0 w0 (Zbo.p1.S i_3 a_0_0 by_1_0 out_12 rest_13 st) (XK Tryz.prog R (.c (csub Zbo.B [1,1,1,0,1,0,0]) :: .h J1 :: [.b 0,.c (csub Zbo.B [1,1,1,1])])):=by
 unfold Zbo.p1 at h
 refine iteB h (fun c14 h1=>?_) (fun c14 h2=>?_)
 ·obtain ⟨x14,c15,h3⟩:=Zae h1
  obtain ⟨c16,c17,c18,h4⟩:=ck3 h3
  let o1:List PS:=[.r [],.c true,.r [],.r [(1,q1 [.agg [L.arr .u64 4 x14]])],.d {ds:=[],hv:=4096,Hs:=[4096]}]
  have t1 {Q:Prop} (q:Q):=aI c14 (ix 3 4 (aJ (leI 0 63) (Zby.snd c15) (ix 0 4 (aM (neI 64) c16 c17 (neI 64) c18 (ix 0 4 q)))))
  refine iteB h4 (fun c19 h5=>?_) (fun c19 h6=>?_)
  ·obtain ⟨⟨x15,x16⟩,c20,h7⟩:=Zae h5
   exact aqd fol (o1 ++ [.r [(2,wF),(3,wF),(4,wF),(5,wF)],.c true,.r [(2,q1 [.agg [L.arr .u64 4 x15],oB x16])],.d {ds:=[],hv:=512,Hs:=[512]},.s 4]) [2,3,4,5,6,7,8] [2,3,4,5,6,7] (t1 (aO c19 c19 c19 c19 c19 eT (Zcd.snd c20) (aN (neI 64) c16 c17 (neI 64) c18 c16 c17))) (Zbo.p2_ok h7 hE hc1)
  ·obtain ⟨x17,c21,h8⟩:=Zae h6
   let o2:List PS:=o1 ++ [.r [(4,q1 [oB x17]),(6,yF)]]
   have t2 {Q:Prop} (q:Q):=t1 (aN c19 c19 c19 (Zco.snd c21) c19 c19 q)
   refine iteB h8 (fun c22 h9=>?_) (fun c22 h10=>?_)
   ·obtain ⟨⟨x18,x19⟩,c23,h11⟩:=Zae h9
    exact aqd fol (o2 ++ [.c true,.r [(2,q1 [.agg [L.arr .u64 4 x18],oB x19])],.d {ds:=[],hv:=512,Hs:=[512]},.s 4]) [2,3,4,5,6,7,8] [2,3,4,5,6,7] (t2 (aO c22 (Zcd.snd c23) (neI 64) c16 c17 (neI 64) c18 (aI c16 c17))) (Zbo.p2_ok h11 hE hc1)
   ·exact aqd fol (o2 ++ [.c false,.s 4]) [2,3,4,5,6,7,8] [2,3,4,5,6,7] (t2 c22) (Zbo.p2_ok h10 hE hc1)
 ·obtain rfl:=Zad h2
  exact afd fol hE [.r [],.c false,.d {ds:=[],hv:=12,Hs:=[4,12]}] [] 0 [] c14
theorem Zbo.snd {a_0_0 by_1_0:List Int} {r:(List Int)×(List Int)} (h:Zbo N a_0_0 by_1_0=some r):SndQ Tryz.prog 179 [.agg [L.arr .u64 4 a_0_0],.agg [L.arr .u64 4 by_1_0]] (Zbo.rs r):=fun st=>
 sO Zbo.B Tryz.func179 fun g0 w0 R hE=>by
  unfold Zbo at h
  obtain ⟨x1,c1,h12⟩:=Zae h
  let o3:List PS:=[.r [],.r [],.r [(1,q1 [oB x1])]]
  refine iteB h12 (fun c2 h13=>?_) (fun c2 h14=>?_)
  ·obtain rfl:=Zad h13
   exact afd fol hE (o3 ++ [.c true,.d {ds:=[],hv:=12,Hs:=[4,12]}]) [] 0 [] (aI (Zcr.snd c1) c2)
  ·obtain ⟨x2,c3,h15⟩:=Zae h14
   exact aq fol (o3 ++ [.c false,.r [(1,q1 [oI x2])]]) [2,3,4,5,6,7,8] [2,3,4,5,6,7] (aJ (Zcr.snd c1) c2 (ZbZ.snd c3)) (At.loop N (At.loopN (fun y:Int×(List Int)×(List Int)=>Zbo.p1.S y.1 a_0_0 by_1_0 y.2.1 y.2.2 st) (fun c J hc y h=>Zbo.p1_ok (i_3:=y.1) (out_12:=y.2.1) (rest_13:=y.2.2) h hE (fun i_3 out_12 rest_13=>hc (i_3,out_12,rest_13))) N (w64 (x2-1),List.replicate 4 0,List.replicate 4 0) h15))
noncomputable def ZcY.B:Code:=Tryz.f115.body.getD .skip
noncomputable def ZcY.rs (r:(List Int)):List CV:=[.agg [L.arr .u64 4 r]]
noncomputable def ZcY (N:Nat):Option (List Int):=
 optE (ZbR N (List.replicate 4 0)) fun x1=>
 some x1
theorem ZcY.snd {r:(List Int)} (h:ZcY N=some r):SndQ Tryz.prog 115 [] (ZcY.rs r):=fun st=>
 sO ZcY.B Tryz.func115 fun g0 w0 R hE=>by
  unfold ZcY at h
  obtain ⟨x1,c1,h1⟩:=Zae h
  obtain rfl:=Zad h1
  exact af fol hE [.r [],.r [(1,q1 [.agg [L.arr .u64 4 x1]])]] [] 0 [] (ZbR.snd c1)
noncomputable def ZeF.B:Code:=Tryz.f118.body.getD .skip
noncomputable def ZeF.rs (r:(List Int)):List CV:=[.agg [L.arr .u64 4 r]]
noncomputable def ZeF (N:Nat) (target_0_0:List Int):Option (List Int):=
 optE (ZcH N 1) fun x1=>
 optE (ZbC N target_0_0 x1) fun (x2,x3)=>
 if x3=true then
  some x1
 else
 optE (ZbR N target_0_0) fun x4=>
 optE (Zbo N x4 x2) fun (x5,x6)=>
 optE (ZbC N x5 x1) fun (x7,x8)=>
 if x8=true then
  optE (ZcY N ) fun x9=>
  some x9
 else
 some x7
theorem ZeF.snd {target_0_0:List Int} {r:(List Int)} (h:ZeF N target_0_0=some r):SndQ Tryz.prog 118 [.agg [L.arr .u64 4 target_0_0]] (ZeF.rs r):=fun st=>
 sO ZeF.B Tryz.func118 fun g0 w0 R hE=>by
  unfold ZeF at h
  obtain ⟨x1,c1,h1⟩:=Zae h
  obtain ⟨⟨x2,x3⟩,c2,h2⟩:=Zae h1
  let o1:List PS:=[.r [],.d {ds:=[(1,q1 [.agg [L.arr .u64 4 x1]]),(2,q1 [.agg [L.arr .u64 4 x2],oB x3])],hv:=192,Hs:=[64,192]},.r []]
  have t1 {Q:Prop} (q:Q):=aL (ZcH.snd c1) (ZcH.snd c1) (ZbC.snd c2) (ZbC.snd c2) q
  refine iteB h2 (fun c3 h3=>?_) (fun c3 h4=>?_)
  ·obtain rfl:=Zad h3
   exact afd fol hE (o1 ++ [.c true,.r [(0,q1 [.agg [L.arr .u64 4 x1]])]]) [] 0 [] (t1 (aI c3 (ZcH.snd c1)))
  ·obtain ⟨x4,c4,h5⟩:=Zae h4
   obtain ⟨⟨x5,x6⟩,c5,h6⟩:=Zae h5
   obtain ⟨⟨x7,x8⟩,c6,h7⟩:=Zae h6
   let o2:List PS:=o1 ++ [.c false,.d {ds:=[(1,q1 [.agg [L.arr .u64 4 x4]]),(3,q1 [.agg [L.arr .u64 4 x5],.agg [L.arr .u64 4 x6]])],hv:=1920,Hs:=[128,256,384,896,1920]},.d {ds:=[(1,q1 [.agg [L.arr .u64 4 x1]]),(2,q1 [.agg [L.arr .u64 4 x7],oB x8])],hv:=192,Hs:=[64,192]},.r []]
   have t2 {Q:Prop} (q:Q):=t1 (aO c3 (ZbR.snd c4) (ZbR.snd c4) (ZbR.snd c4) (ZbR.snd c4) (Zbo.snd c5) (Zbo.snd c5) (aN (Zbo.snd c5) (Zbo.snd c5) (ZcH.snd c1) (ZcH.snd c1) (ZbC.snd c6) (ZbC.snd c6) q))
   refine iteB h7 (fun c7 h8=>?_) (fun c7 h9=>?_)
   ·obtain ⟨x9,c8,h10⟩:=Zae h8
    obtain rfl:=Zad h10
    exact afd fol hE (o2 ++ [.c true,.r [(0,q1 [.agg [L.arr .u64 4 x9]])]]) [] 0 [] (t2 (aI c7 (ZcY.snd c8)))
   ·obtain rfl:=Zad h9
    exact afd fol hE (o2 ++ [.c false,.r []]) [] 0 [] (t2 c7)
noncomputable def Zcx.B:Code:=Tryz.f64.body.getD .skip
noncomputable def Zcx.rs (r:(List Int)):List CV:=[.agg [L.arr .u64 4 r]]
noncomputable def Zcx (N:Nat) (bits_0:Int):Option (List Int):=
 optE (ZaG N bits_0) fun (x1,x2,x3)=>
 if x2=true then
  some (List.replicate 4 0)
 else
 if x3=true then
  some (List.replicate 4 0)
 else
 optE (Zcr N x1) fun x4=>
 if x4=true then
  some (List.replicate 4 0)
 else
 optE (ZeF N x1) fun x5=>
 some x5
theorem Zcx.snd {bits_0:Int} {r:(List Int)} (h:Zcx N bits_0=some r):SndQ Tryz.prog 64 [oI bits_0] (Zcx.rs r):=fun st=>
 sO Zcx.B Tryz.func64 fun g0 w0 R hE=>by
  unfold Zcx at h
  obtain ⟨⟨x1,x2,x3⟩,c1,h1⟩:=Zae h
  let o1:List PS:=[.r [],.r [(1,q1 [.agg [L.arr .u64 4 x1],oB x2,oB x3])]]
  have t1 {Q:Prop} (q:Q):=aI (ZaG.snd c1) q
  refine iteB h1 (fun c2 h2=>?_) (fun c2 h3=>?_)
  ·obtain rfl:=Zad h2
   exact af fol hE (o1 ++ [.r [(2,wF),(5,wF),(6,wF)],.c true,.r []]) [] 0 [] (t1 (aM c2 c2 eT eT eT eT))
  ·refine iteB h3 (fun c3 h4=>?_) (fun c3 h5=>?_)
   ·obtain rfl:=Zad h4
    exact af fol hE (o1 ++ [.r [(3,yF),(5,wF),(6,wF)],.c true,.r []]) [] 0 [] (t1 (aM c2 c2 c3 c3 c3 eT))
   ·obtain ⟨x4,c4,h6⟩:=Zae h5
    let o2:List PS:=o1 ++ [.r [(3,yF),(6,q1 [oB x4]),(7,yF)]]
    refine iteB h6 (fun c5 h7=>?_) (fun c5 h8=>?_)
    ·obtain rfl:=Zad h7
     exact af fol hE (o2 ++ [.c true,.r []]) [] 0 [] (t1 (aN c2 c2 c3 c3 (Zcr.snd c4) c3 c5))
    ·obtain ⟨x5,c6,h9⟩:=Zae h8
     obtain rfl:=Zad h9
     exact af fol hE (o2 ++ [.c false,.r [(1,q1 [.agg [L.arr .u64 4 x5]])]]) [] 0 [] (t1 (aO c2 c2 c3 c3 (Zcr.snd c4) c3 c5 (ZeF.snd c6)))
noncomputable def ZbY.B:Code:=Tryz.f114.body.getD .skip
noncomputable def ZbY.rs (r:(List Int)×Bool):List CV:=[.agg [L.arr .u64 4 r.1],oB r.2]
noncomputable def ZbY.p1 (N:Nat) (list_0:LL) (c1_:(Bool×Int×(List Int))→Option ((List Int)×Bool)):(Bool×Int×(List Int))→Option ((List Int)×Bool):=fun (over_1,v2,out_6)=>
 if (decide (v2<(len list_0)))=true then
  chk (0≤v2)<|
  getE (list_0[Int.toNat v2]?) Zgv fun x7=>
  optE (ZbC N out_6 x7) fun (x8,x9)=>
  if over_1=true then
   c1_ (true,w64 (v2+1),x8)
  else
  c1_ (x9,w64 (v2+1),x8)
 else
 some (out_6,over_1)
noncomputable def ZbY (N:Nat) (list_0:LL):Option ((List Int)×Bool):=
 loopN (ZbY.p1 N list_0) N (false,0,List.replicate 4 0)
noncomputable def ZbY.p1.S (over_1:Bool) (list_0:LL) (v2:Int) (out_6:List Int) (st:LL):S:=mkS 28 [(2,sA 2),(4,sA 4),(5,.one (.l (L.bool over_1))),(9,sV 4 list_0),(10,sI (len list_0)),(11,sI v2)] [(2,.cells [L.arr .u64 4 (List.replicate 4 0)]),(4,.cells [L.arr .u64 4 out_6])] st
theorem ZbY.p1_ok {over_1 list_0 v2 out_6 st r c1_ J1} (h:ZbY.p1 N list_0 c1_ (over_1,v2,out_6)=some r) (hE:En Tryz.f114 g0 w0 (ZbY.rs r) st R) (hc1 : ∀over_1 v2 out_6,c1_ (over_1,v2,out_6)=some r→At g0 w0 (ZbY.p1.S over_1 list_0 v2 out_6 st) J1):At g0 w0 (ZbY.p1.S over_1 list_0 v2 out_6 st) (XK Tryz.prog R (.c (csub ZbY.B [1,1,1,0,1,0,0]) :: .h J1 :: [.b 0,.c (csub ZbY.B [1,1,1,1])])):=by
 unfold ZbY.p1 at h
 refine iteB h (fun c6 h1=>?_) (fun c6 h2=>?_)
 ·obtain ⟨c7,h3⟩:=ZaO h1
  obtain ⟨x7,c8,h4⟩:=Zjk h3
  obtain ⟨⟨x8,x9⟩,c9,h5⟩:=Zae h4
  let o1:List PS:=[.r [],.c true,.r [(1,{oe:=[L.arr .u64 4 x7]})],.r [],.r [(2,q1 [.agg [L.arr .u64 4 x8],oB x9])]]
  refine iteB h5 (fun c10 h6=>?_) (fun c10 h7=>?_)
  ·exact an fol (o1 ++ [.r [(2,wF)],.r []]) [2,4,5,9,10,11] [2,4] (aN c6 c7 (oD c6) c8 (ZbC.snd c9) c10 c10) (hc1 true (w64 (v2+1)) x8 h6)
  ·exact an fol (o1 ++ [.r [(3,yF)],.r []]) [2,4,5,9,10,11] [2,4] (aN c6 c7 (oD c6) c8 (ZbC.snd c9) c10 c10) (hc1 x9 (w64 (v2+1)) x8 h7)
 ·obtain rfl:=Zad h2
  exact af fol hE [.r [],.c false,.r []] [] 0 [] c6
theorem ZbY.snd {list_0:LL} {r:(List Int)×Bool} (h:ZbY N list_0=some r):SndQ Tryz.prog 114 [.one (L.sl 4 list_0)] (ZbY.rs r):=fun st=>
 sO ZbY.B Tryz.func114 fun g0 w0 R hE=>by
  unfold ZbY at h
  exact aq fol [.r [],.r [],.r [],.r []] [2,4,5,9,10,11] [2,4] trivial (At.loop N (At.loopN (fun y:Bool×Int×(List Int)=>ZbY.p1.S y.1 list_0 y.2.1 y.2.2 st) (fun c J hc y h=>ZbY.p1_ok (over_1:=y.1) (v2:=y.2.1) (out_6:=y.2.2) h hE (fun over_1 v2 out_6=>hc (over_1,v2,out_6))) N (false,0,List.replicate 4 0) h))
noncomputable def Zdt.B:Code:=Tryz.f63.body.getD .skip
noncomputable def Zdt.rs (r:(List Int)):List CV:=[.agg [L.arr .u64 4 r]]
noncomputable def Zdt (N:Nat) (list_0:LL):Option (List Int):=
 optE (ZbY N list_0) fun (x1,x2)=>
 if x2=true then
  optE (ZcY N ) fun x3=>
  some x3
 else
 some x1
theorem Zdt.snd {list_0:LL} {r:(List Int)} (h:Zdt N list_0=some r):SndQ Tryz.prog 63 [.one (L.sl 4 list_0)] (Zdt.rs r):=fun st=>
 sO Zdt.B Tryz.func63 fun g0 w0 R hE=>by
  unfold Zdt at h
  obtain ⟨⟨x1,x2⟩,c1,h1⟩:=Zae h
  let o1:List PS:=[.r [],.r [(1,q1 [.agg [L.arr .u64 4 x1],oB x2])],.r []]
  refine iteB h1 (fun c2 h2=>?_) (fun c2 h3=>?_)
  ·obtain ⟨x3,c3,h4⟩:=Zae h2
   obtain rfl:=Zad h4
   exact af fol hE (o1 ++ [.c true,.r [(0,q1 [.agg [L.arr .u64 4 x3]])]]) [] 0 [] (aJ (ZbY.snd c1) c2 (ZcY.snd c3))
  ·obtain rfl:=Zad h3
   exact af fol hE (o1 ++ [.c false,.r []]) [] 0 [] (aI (ZbY.snd c1) c2)
noncomputable def Zca.B:Code:=Tryz.f167.body.getD .skip
noncomputable def Zca.rs (r:Bool×LL):List CV:=[oB r.1]
noncomputable def Zca (N:Nat) (s_0:Option Nat) (h_1:Zac) (now_2:Int) (st:LL):Option (Bool×LL):=
 optE s_0 fun i1=>
 getE (st[i1]?) Zbp fun x2 x3 x4 x5 x6 x7 x8 x9 x10 x11 x12 x13 x14 x15 x16 x17 x18 x19 x20 x21 x22 x23 x24 x25 x26 x27 x28 x29 x30 x31 x32 x33 x34 x35 x36 x37=>
 optE (ZcZ N (Zai.mk x2 x3 x4 x5 x6 x7 x8 x9 x10 (Zac.mk x11 x12 x13 x14 x15 x16)) (Zat.mk (ZaQ.mk x25 x26 x27 x28 x29) x30 x31) h_1 now_2) fun x38=>
 if (x38 != 0)=true then
  some (false,st)
 else
 optE (Zcz N (Zai.mk x2 x3 x4 x5 x6 x7 x8 x9 x10 (Zac.mk x11 x12 x13 x14 x15 x16)) (Zat.mk (ZaQ.mk x25 x26 x27 x28 x29) x30 x31) h_1) fun x39=>
 optE (Zcx N h_1.Bits) fun x40=>
 optE (Zdt N [[L.arr .u64 4 x32],[L.arr .u64 4 x40]]) fun x41=>
 some (true,List.set st i1 [L.int .i64 x2,L.int .i64 x3,L.int .i64 x4,L.int .i64 x5,L.bool x6,L.sl 2 x7,L.sl 33 x8,L.arr .u64 4 x9,L.arr .u64 4 x10,L.int .i64 x11,L.arr .u8 32 x12,L.arr .u8 32 x13,L.int .i64 x14,L.int .i64 x15,L.int .i64 x16,L.int .i64 x17,L.int .i64 x18,L.int .i64 x19,L.int .i64 x20,L.int .i64 x21,L.arr .u8 32 x22,L.sl 1 x23,L.arr .u64 4 x24,L.int .i64 x39.Point.Height,L.int .i64 x39.Point.Bits,L.int .i64 x39.Point.Time,L.int .i64 x39.Point.First,L.int .i64 x39.Point.Hard,L.arr .u8 32 x39.Prev,L.sl 1 x39.Times,L.arr .u64 4 x41,L.ptr x33,L.int .i64 x34,L.int .i64 x35,L.int .i64 x36,L.own true 68 x37])
theorem Zca.snd {s_0:Option Nat} {h_1:Zac} {now_2:Int} {st:LL} {r:Bool×LL} (h:Zca N s_0 h_1 now_2 st=some r):Snd Tryz.prog 167 [.one (L.ptr s_0),.agg h_1.ls,oI now_2] st (Zca.rs r) r.2:=
 sO Zca.B Tryz.func167 fun g0 w0 R hE=>by
  unfold Zca at h
  obtain ⟨i1,rfl,h1⟩:=Zae h
  obtain ⟨x2,x3,x4,x5,x6,x7,x8,x9,x10,x11,x12,x13,x14,x15,x16,x17,x18,x19,x20,x21,x22,x23,x24,x25,x26,x27,x28,x29,x30,x31,x32,x33,x34,x35,x36,x37,c2,h2⟩:=Zbk h1
  obtain ⟨x38,c3,h3⟩:=Zae h2
  let o1:List PS:=[.r [],.d {ds:=[(3,{oc:=[L.int .i64 x2,L.int .i64 x3,L.int .i64 x4,L.int .i64 x5,L.bool x6,L.sl 2 x7,L.sl 33 x8,L.arr .u64 4 x9,L.arr .u64 4 x10,L.int .i64 x11,L.arr .u8 32 x12,L.arr .u8 32 x13,L.int .i64 x14,L.int .i64 x15,L.int .i64 x16,L.int .i64 x17,L.int .i64 x18,L.int .i64 x19,L.int .i64 x20,L.int .i64 x21,L.arr .u8 32 x22,L.sl 1 x23,L.arr .u64 4 x24,L.int .i64 x25,L.int .i64 x26,L.int .i64 x27,L.int .i64 x28,L.int .i64 x29,L.arr .u8 32 x30,L.sl 1 x31,L.arr .u64 4 x32,L.ptr x33,L.int .i64 x34,L.int .i64 x35,L.int .i64 x36,L.own true 68 x37]}),(8,{oc:=[L.int .i64 x2,L.int .i64 x3,L.int .i64 x4,L.int .i64 x5,L.bool x6,L.sl 2 x7,L.sl 33 x8,L.arr .u64 4 x9,L.arr .u64 4 x10,L.int .i64 x11,L.arr .u8 32 x12,L.arr .u8 32 x13,L.int .i64 x14,L.int .i64 x15,L.int .i64 x16,L.int .i64 x17,L.int .i64 x18,L.int .i64 x19,L.int .i64 x20,L.int .i64 x21,L.arr .u8 32 x22,L.sl 1 x23,L.arr .u64 4 x24,L.int .i64 x25,L.int .i64 x26,L.int .i64 x27,L.int .i64 x28,L.int .i64 x29,L.arr .u8 32 x30,L.sl 1 x31,L.arr .u64 4 x32,L.ptr x33,L.int .i64 x34,L.int .i64 x35,L.int .i64 x36,L.own true 68 x37]}),(11,q1 [oI x38])],hv:=0,Hs:=[]}]
  refine iteB h3 (fun c4 h4=>?_) (fun c4 h5=>?_)
  ·obtain rfl:=Zad h4
   exact afd fol hE (o1 ++ [.c true,.r []]) [] 0 [] (aK c2 c2 (ZcZ.snd c3) c4)
  ·obtain ⟨x39,c5,h6⟩:=Zae h5
   obtain ⟨x40,c6,h7⟩:=Zae h6
   obtain ⟨x41,c7,h8⟩:=Zae h7
   obtain rfl:=Zad h8
   exact afd fol hE (o1 ++ [.c false,.d {ds:=[(4,{oc:=[L.int .i64 x2,L.int .i64 x3,L.int .i64 x4,L.int .i64 x5,L.bool x6,L.sl 2 x7,L.sl 33 x8,L.arr .u64 4 x9,L.arr .u64 4 x10,L.int .i64 x11,L.arr .u8 32 x12,L.arr .u8 32 x13,L.int .i64 x14,L.int .i64 x15,L.int .i64 x16,L.int .i64 x17,L.int .i64 x18,L.int .i64 x19,L.int .i64 x20,L.int .i64 x21,L.arr .u8 32 x22,L.sl 1 x23,L.arr .u64 4 x24,L.int .i64 x25,L.int .i64 x26,L.int .i64 x27,L.int .i64 x28,L.int .i64 x29,L.arr .u8 32 x30,L.sl 1 x31,L.arr .u64 4 x32,L.ptr x33,L.int .i64 x34,L.int .i64 x35,L.int .i64 x36,L.own true 68 x37]}),(9,{oc:=[L.int .i64 x2,L.int .i64 x3,L.int .i64 x4,L.int .i64 x5,L.bool x6,L.sl 2 x7,L.sl 33 x8,L.arr .u64 4 x9,L.arr .u64 4 x10,L.int .i64 x11,L.arr .u8 32 x12,L.arr .u8 32 x13,L.int .i64 x14,L.int .i64 x15,L.int .i64 x16,L.int .i64 x17,L.int .i64 x18,L.int .i64 x19,L.int .i64 x20,L.int .i64 x21,L.arr .u8 32 x22,L.sl 1 x23,L.arr .u64 4 x24,L.int .i64 x25,L.int .i64 x26,L.int .i64 x27,L.int .i64 x28,L.int .i64 x29,L.arr .u8 32 x30,L.sl 1 x31,L.arr .u64 4 x32,L.ptr x33,L.int .i64 x34,L.int .i64 x35,L.int .i64 x36,L.own true 68 x37]}),(11,q1 [.agg x39.ls]),(16,{oc:=[L.int .i64 x2,L.int .i64 x3,L.int .i64 x4,L.int .i64 x5,L.bool x6,L.sl 2 x7,L.sl 33 x8,L.arr .u64 4 x9,L.arr .u64 4 x10,L.int .i64 x11,L.arr .u8 32 x12,L.arr .u8 32 x13,L.int .i64 x14,L.int .i64 x15,L.int .i64 x16,L.int .i64 x17,L.int .i64 x18,L.int .i64 x19,L.int .i64 x20,L.int .i64 x21,L.arr .u8 32 x22,L.sl 1 x23,L.arr .u64 4 x24,L.int .i64 x25,L.int .i64 x26,L.int .i64 x27,L.int .i64 x28,L.int .i64 x29,L.arr .u8 32 x30,L.sl 1 x31,L.arr .u64 4 x32,L.ptr x33,L.int .i64 x34,L.int .i64 x35,L.int .i64 x36,L.own true 68 x37]}),(19,q1 [.agg [L.arr .u64 4 x40]]),(21,{rs:=[.agg [L.arr .u64 4 x41]],m:=2}),(25,{oc:=[L.int .i64 x2,L.int .i64 x3,L.int .i64 x4,L.int .i64 x5,L.bool x6,L.sl 2 x7,L.sl 33 x8,L.arr .u64 4 x9,L.arr .u64 4 x10,L.int .i64 x11,L.arr .u8 32 x12,L.arr .u8 32 x13,L.int .i64 x14,L.int .i64 x15,L.int .i64 x16,L.int .i64 x17,L.int .i64 x18,L.int .i64 x19,L.int .i64 x20,L.int .i64 x21,L.arr .u8 32 x22,L.sl 1 x23,L.arr .u64 4 x24,L.int .i64 x25,L.int .i64 x26,L.int .i64 x27,L.int .i64 x28,L.int .i64 x29,L.arr .u8 32 x30,L.sl 1 x31,L.arr .u64 4 x32,L.ptr x33,L.int .i64 x34,L.int .i64 x35,L.int .i64 x36,L.own true 68 x37]})],hv:=34603008,Hs:=[1048576,34603008]},.r []]) [] 0 [] (aO c2 c2 (ZcZ.snd c3) c4 c2 c2 (Zcz.snd c5) (aM c2 (Zcx.snd c6) z0 (eN (2)) (Zdt.snd c7) c2))
noncomputable def Zcj.B:Code:=Tryz.f200.body.getD .skip
noncomputable def Zcj.rs (r:Bool):List CV:=[oB r]
noncomputable def Zcj (N:Nat) (p_0:Zbi) (height_1:Int):Option Bool:=
 optE (Zcy N p_0) fun x1=>
 if x1=true then
  if (decide (height_1≥0))=true then
   chk (p_0.Period≠0)<|
   some ((Int.tmod height_1 p_0.Period)==p_0.Offset)
  else
  some false
 else
 some false
theorem Zcj.snd {p_0:Zbi} {height_1:Int} {r:Bool} (h:Zcj N p_0 height_1=some r):SndQ Tryz.prog 200 [.agg p_0.ls,oI height_1] (Zcj.rs r):=fun st=>
 sO Zcj.B Tryz.func200 fun g0 w0 R hE=>by
  unfold Zcj at h
  obtain ⟨x1,c1,h1⟩:=Zae h
  have t1 {Q:Prop} (q:Q):=aI (Zcy.snd c1) q
  refine iteB h1 (fun c2 h2=>?_) (fun c2 h3=>?_)
  ·refine iteB h2 (fun c3 h4=>?_) (fun c3 h5=>?_)
   ·obtain ⟨c4,h6⟩:=ZaO h4
    obtain rfl:=Zad h6
    exact afd fol hE [.r [],.d {ds:=[(1,q1 [oB x1])],hv:=0,Hs:=[]}] [] 0 [] (t1 (aO c2 c2 c2 c3 c3 c3 c3 (aL c4 c3 c3 c3 c3)))
   ·obtain rfl:=Zad h5
    exact afd fol hE [.r [],.d {ds:=[(1,q1 [oB x1]),(7,wF),(8,wF),(9,wF),(10,wF),(11,wF),(12,wF),(13,wF),(14,yF)],hv:=0,Hs:=[]}] [] 0 [] (t1 (aO c2 c2 c2 c3 c3 c3 c3 (aK c3 c3 c3 c3)))
  ·obtain rfl:=Zad h3
   exact afd fol hE [.r [],.d {ds:=[(1,q1 [oB x1]),(3,wF),(4,wF),(5,yF),(7,wF),(8,wF),(9,wF),(10,wF),(11,wF),(12,wF),(13,wF),(14,yF)],hv:=0,Hs:=[]}] [] 0 [] (t1 (aO c2 c2 c2 eF eF eF eF (aK eF eF eF eF)))
noncomputable def ZbH.B:Code:=Tryz.f201.body.getD .skip
noncomputable def ZbH.rs (r:Bool×LL):List CV:=[oB r.1]
noncomputable def ZbH (N:Nat) (p_0:Zbi) (id_1_0:List Int) (st:LL):Option (Bool×LL):=
 optE (ZaF N (some (List.length st)) 8 [[L.int .i64 p_0.Salt]] (st ++ [[L.own true 1 []]])) fun st1=>
 optE (ZaY N (some (List.length st)) [[L.arr .u8 32 id_1_0]] st1) fun st2=>
 getE (st2[List.length st]?) ZfS fun x3=>
 optE (ZbW N x3) fun x4=>
 optE (Zcv N [[L.str x4]] st2) fun (x5,st6)=>
 some ((bitsOf .and .u8 (List.getD x5 0 0) 1)==1,st6)
theorem ZbH.snd {p_0:Zbi} {id_1_0:List Int} {st:LL} {r:Bool×LL} (h:ZbH N p_0 id_1_0 st=some r):Snd Tryz.prog 201 [.agg p_0.ls,.agg [L.arr .u8 32 id_1_0]] st (ZbH.rs r) r.2:=
 sO ZbH.B Tryz.func201 fun g0 w0 R hE=>by
  unfold ZbH at h
  obtain ⟨st1,c1,h1⟩:=Zae h
  obtain ⟨st2,c2,h2⟩:=Zae h1
  obtain ⟨x3,c3,h3⟩:=Zeq h2
  obtain ⟨x4,c4,h4⟩:=Zae h3
  obtain ⟨⟨x5,st6⟩,c5,h5⟩:=Zae h4
  obtain rfl:=Zad h5
  exact af fol hE [.r [],.r [(0,{ns:=[0]}),(1,{m:=1})],.r [(4,{st:=st1,fz:=[12]})],.r [(3,{st:=st2,fz:=[16]})],.r [(1,{rs:=[.one (L.str x4)],m:=10,cv:=[.one (L.bx 1 [L.sl 1 x3])]}),(3,{rs:=[.agg [L.arr .u8 32 x5]],st:=st6,fz:=[20]})],.r []] [] 0 [] (aO z0 (eN (1)) (ZaF.snd c1) z0 (eN (1)) (ZaY.snd c2) (bO 1 c3 ((bW bN):BVs st2 [L.own true 1 x3] [L.sl 1 x3])) (aM (ZbW.snd c4) z0 (eN (1)) (Zcv.snd c5) (leI 0 0) (ltI 0 32)))
noncomputable def Zak.B:Code:=Tryz.f168.body.getD .skip
noncomputable def Zak.rs (r:Int×LL):List CV:=[oI r.1]
noncomputable def Zak.p4 (N:Nat) (c1_:((Option Nat)×Int×Int×LL)→Option (Int×LL)) (i20:Nat) (height_1 n_31:Int) (names_2:LL) (v2:Int) (st32:LL):Option (Int×LL):=
 c1_ ((some i20),n_31,w64 (v2+1),st32)
noncomputable def Zak.p3 (N:Nat) (c1_:((Option Nat)×Int×Int×LL)→Option (Int×LL)) (i20:Nat) (height_1 n_1:Int) (names_2:LL) (v2:Int) (st29:LL):Option (Int×LL):=
 getE (st29[i20]?) Zbf fun x30=>
 Zak.p4 N c1_ i20 height_1 (w64 (n_1+1)) names_2 v2 (List.set st29 i20 (Zax.lo {x30 with given:=w64 (x30.given+1)}))
noncomputable def Zak.p2 (N:Nat) (c1_:((Option Nat)×Int×Int×LL)→Option (Int×LL)) (i20:Nat) (height_1 n_1:Int) (names_2:LL) (v2:Int) (x19:List Int) (st23:LL):Option (Int×LL):=
 getE (st23[i20]?) Zbf fun x24=>
 optE (ZbH N x24.Plan x19 st23) fun (x25,st26)=>
 if x25=true then
  getE (st26[i20]?) Zbf fun x27=>
  chk (0≤(w64 (Int.tdiv x27.given 64)))<|
  chk ((w64 (Int.tdiv x27.given 64))<(len x27.words))<|
  getE (x27.words[0+(Int.toNat (w64 (Int.tdiv x27.given 64)))]?) Zga fun x28=>
  chk (0≤(Int.tmod x27.given 64))<|
  Zak.p3 N c1_ i20 height_1 n_1 names_2 v2 (List.set st26 i20 (Zax.lo {x27 with words:=List.set x27.words (0+(Int.toNat (w64 (Int.tdiv x27.given 64)))) [L.int .u64 (bitsOf .or .u64 x28 (shlOf .u64 1 (Int.tmod x27.given 64)))]}))
 else
 Zak.p3 N c1_ i20 height_1 n_1 names_2 v2 st26
noncomputable def Zak.p1 (N:Nat) (height_1:Int) (names_2:LL) (c1_:((Option Nat)×Int×Int×LL)→Option (Int×LL)):((Option Nat)×Int×Int×LL)→Option (Int×LL):=fun (b_17,n_1,v2,st18)=>
 if (decide (v2<(len names_2)))=true then
  chk (0≤v2)<|
  getE (names_2[Int.toNat v2]?) ZfF fun x19=>
  optE b_17 fun i20=>
  getE (st18[i20]?) Zbf fun x21=>
  optE (Zcj N x21.Plan (w64 (height_1+v2))) fun x22=>
  if (!x22)=true then
   Zak.p4 N c1_ i20 height_1 n_1 names_2 v2 st18
  else
  if ((Int.tmod x21.given 64)==0)=true then
   chk (List.length (x21.words ++ [[L.int .u64 0]])*8≤140737488355328)<|
   Zak.p2 N c1_ i20 height_1 n_1 names_2 v2 x19 (List.set (List.set st18 i20 (gs x21.lo 3)) i20 (Zax.lo {x21 with words:=x21.words ++ [[L.int .u64 0]]}))
  else
  Zak.p2 N c1_ i20 height_1 n_1 names_2 v2 x19 st18
 else
 some (n_1,st18)
noncomputable def Zak (N:Nat) (b_0:Option Nat) (height_1:Int) (names_2 st:LL):Option (Int×LL):=
 if (Option.isNone b_0)=true then
  some (0,st)
 else
 loopN (Zak.p1 N height_1 names_2) N (b_0,0,0,st)
noncomputable def Zak.p4.S (i20:Nat) (height_1 n_31:Int) (names_2:LL) (v2:Int) (st32:LL):S:=mkS 79 [(0,sP (some i20)),(1,sI height_1),(7,sI n_31),(12,sV 32 names_2),(13,sI (len names_2)),(14,sI v2)] [] st32
noncomputable def Zak.p3.S (i20:Nat) (height_1 n_1:Int) (names_2:LL) (v2:Int) (st29:LL):S:=mkS 79 [(0,sP (some i20)),(1,sI height_1),(7,sI n_1),(12,sV 32 names_2),(13,sI (len names_2)),(14,sI v2)] [] st29
noncomputable def Zak.p2.S (i20:Nat) (height_1 n_1:Int) (names_2:LL) (v2:Int) (x19:List Int) (st23:LL):S:=mkS 79 [(0,sP (some i20)),(1,sI height_1),(7,sI n_1),(9,sA 9),(12,sV 32 names_2),(13,sI (len names_2)),(14,sI v2)] [(9,.cells [L.arr .u8 32 x19])] st23
noncomputable def Zak.p1.S (b_17:Option Nat) (height_1 n_1:Int) (names_2:LL) (v2:Int) (st18:LL):S:=mkS 79 [(0,sP b_17),(1,sI height_1),(7,sI n_1),(12,sV 32 names_2),(13,sI (len names_2)),(14,sI v2)] [] st18
theorem Zak.p4_ok {i20 height_1 n_31 names_2 v2 st32 r c1_ J1} (h:Zak.p4 N c1_ i20 height_1 n_31 names_2 v2 st32=some r) (hE:En Tryz.f168 g0 w0 (Zak.rs r) r.2 R) (hc1 : ∀b_17 n_1 v2 st18,c1_ (b_17,n_1,v2,st18)=some r→At g0 w0 (Zak.p1.S b_17 height_1 n_1 names_2 v2 st18) J1):At g0 w0 (Zak.p4.S i20 height_1 n_31 names_2 v2 st32) (XK Tryz.prog R [.c (csub Zak.B [1,1,1,0,1,0,0,1,1,1]),.h J1,.b 0,.c (csub Zak.B [1,1,1,1])]):=by
 unfold Zak.p4 at h
 exact an fol [.r []] [0,1,7,12,13,14] [] trivial (hc1 (some i20) n_31 (w64 (v2+1)) st32 h)
theorem Zak.p3_ok {i20 height_1 n_1 names_2 v2 st29 r c1_ J1} (h:Zak.p3 N c1_ i20 height_1 n_1 names_2 v2 st29=some r) (hE:En Tryz.f168 g0 w0 (Zak.rs r) r.2 R) (hc1 : ∀b_17 n_1 v2 st18,c1_ (b_17,n_1,v2,st18)=some r→At g0 w0 (Zak.p1.S b_17 height_1 n_1 names_2 v2 st18) J1):At g0 w0 (Zak.p3.S i20 height_1 n_1 names_2 v2 st29) (XK Tryz.prog R [.c (csub Zak.B [1,1,1,0,1,0,0,1,1,0,0,1,1,1,1]),.b 1,.c (csub Zak.B [1,1,1,0,1,0,0,1,1,1]),.h J1,.b 0,.c (csub Zak.B [1,1,1,1])]):=by
 unfold Zak.p3 at h
 obtain ⟨x30,c37,h1⟩:=Zbq h
 exact aq fol [.r [(3,{oc:=x30.lo}),(7,{oc:=x30.lo})],.r [],.s 4] [0,1,7,12,13,14] [] (aI c37 c37) (Zak.p4_ok h1 hE hc1)
theorem Zak.p2_ok {i20 height_1 n_1 names_2 v2 x19 st23 r c1_ J1} (h:Zak.p2 N c1_ i20 height_1 n_1 names_2 v2 x19 st23=some r) (hE:En Tryz.f168 g0 w0 (Zak.rs r) r.2 R) (hc1 : ∀b_17 n_1 v2 st18,c1_ (b_17,n_1,v2,st18)=some r→At g0 w0 (Zak.p1.S b_17 height_1 n_1 names_2 v2 st18) J1):At g0 w0 (Zak.p2.S i20 height_1 n_1 names_2 v2 x19 st23) (XK Tryz.prog R [.c (csub Zak.B [1,1,1,0,1,0,0,1,1,0,0,1,1,1]),.b 1,.c (csub Zak.B [1,1,1,0,1,0,0,1,1,1]),.h J1,.b 0,.c (csub Zak.B [1,1,1,1])]):=by
 unfold Zak.p2 at h
 obtain ⟨x24,c29,h2⟩:=Zbq h
 obtain ⟨⟨x25,st26⟩,c30,h3⟩:=Zae h2
 let o1:List PS:=[.d {ds:=[(3,{oc:=x24.lo}),(5,{rs:=[oB x25],st:=st26})],hv:=32,Hs:=[32]}]
 refine iteB h3 (fun c31 h4=>?_) (fun c31 h5=>?_)
 ·obtain ⟨x27,c32,h6⟩:=Zbq h4
  obtain ⟨c33,c34,h7⟩:=ck2 h6
  obtain ⟨x28,c35,h8⟩:=ZfZ h7
  obtain ⟨c36,h9⟩:=ZaO h8
  exact aqd fol (o1 ++ [.c true,.d {ds:=[(3,{oc:=x27.lo}),(7,{oc:=x27.lo}),(10,{oc:=x27.lo,oe:=[L.int .u64 x28]}),(14,{oc:=x27.lo}),(19,{oc:=x27.lo})],hv:=524288,Hs:=[524288]},.s 6]) [0,1,7,12,13,14] [] (aO c29 (ZbH.snd c30) c31 c32 c32 (neI 64) c33 (aO c34 c35 c32 c32 (neI 64) c36 c33 (aI c34 c32))) (Zak.p3_ok h9 hE hc1)
 ·exact aqd fol (o1 ++ [.c false,.s 6]) [0,1,7,12,13,14] [] (aJ c29 (ZbH.snd c30) c31) (Zak.p3_ok h5 hE hc1)
theorem Zak.p1_ok {b_17 height_1 n_1 names_2 v2 st18 r c1_ J1} (h:Zak.p1 N height_1 names_2 c1_ (b_17,n_1,v2,st18)=some r) (hE:En Tryz.f168 g0 w0 (Zak.rs r) r.2 R) (hc1 : ∀b_17 n_1 v2 st18,c1_ (b_17,n_1,v2,st18)=some r→At g0 w0 (Zak.p1.S b_17 height_1 n_1 names_2 v2 st18) J1):At g0 w0 (Zak.p1.S b_17 height_1 n_1 names_2 v2 st18) (XK Tryz.prog R (.c (csub Zak.B [1,1,1,0,1,0,0]) :: .h J1 :: [.b 0,.c (csub Zak.B [1,1,1,1])])):=by
 unfold Zak.p1 at h
 refine iteB h (fun c20 h10=>?_) (fun c20 h11=>?_)
 ·obtain ⟨c21,h12⟩:=ZaO h10
  obtain ⟨x19,c22,h13⟩:=Zgt h12
  obtain ⟨i20,rfl,h14⟩:=Zae h13
  obtain ⟨x21,c24,h15⟩:=Zbq h14
  obtain ⟨x22,c25,h16⟩:=Zae h15
  let o2:List PS:=[.r [],.c true,.r [(2,{oe:=[L.arr .u8 32 x19]})],.r [(3,{oc:=x21.lo}),(7,q1 [oB x22])]]
  have t1 {Q:Prop} (q:Q):=aN c20 c21 (oD c20) c22 c24 (Zcj.snd c25) q
  refine iteB h16 (fun c26 h17=>?_) (fun c26 h18=>?_)
  ·exact aq fol (o2 ++ [.c true,.s 4]) [0,1,7,12,13,14] [] (t1 c26) (Zak.p4_ok h17 hE hc1)
  ·refine iteB h18 (fun c27 h19=>?_) (fun c27 h20=>?_)
   ·obtain ⟨c28,h21⟩:=ZaO h19
    exact aq fol (o2 ++ [.c false,.r [(3,{oc:=x21.lo})],.c true,.r [(4,{oc:=x21.lo}),(6,{oe:=x21.lo}),(9,{oc:=gs x21.lo 3,mv:=[40]})],.s 6]) [0,1,7,9,12,13,14] [9] (t1 (aO c26 c24 (neI 64) c27 c24 z0 (eN (List.length x21.words)) (aN c24 z0 (eN (1)) c28 (Zci c24 (gs x21.lo 3)) z0 (eN (List.length (x21.words ++ [[L.int .u64 0]])))))) (Zak.p2_ok h21 hE hc1)
   ·exact aq fol (o2 ++ [.c false,.r [(3,{oc:=x21.lo})],.c false,.s 6]) [0,1,7,9,12,13,14] [9] (t1 (aK c26 c24 (neI 64) c27)) (Zak.p2_ok h20 hE hc1)
 ·obtain rfl:=Zad h11
  exact af fol hE [.r [],.c false,.r []] [] 0 [] c20
theorem Zak.snd {b_0:Option Nat} {height_1:Int} {names_2:LL} {st:LL} {r:Int×LL} (h:Zak N b_0 height_1 names_2 st=some r):Snd Tryz.prog 168 [.one (L.ptr b_0),oI height_1,.one (L.sl 32 names_2)] st (Zak.rs r) r.2:=
 sO Zak.B Tryz.func168 fun g0 w0 R hE=>by
  unfold Zak at h
  refine iteB h (fun c1 h22=>?_) (fun c1 h23=>?_)
  ·obtain rfl:=Zad h22
   exact af fol hE [.r [],.r [],.c true,.r []] [] 0 [] c1
  ·exact aq fol [.r [],.r [],.c false,.r [],.r []] [0,1,7,12,13,14] [] c1 (At.loop N (At.loopN (fun y:(Option Nat)×Int×Int×LL=>Zak.p1.S y.1 height_1 y.2.1 names_2 y.2.2.1 y.2.2.2) (fun c J hc y h=>Zak.p1_ok (b_17:=y.1) (n_1:=y.2.1) (v2:=y.2.2.1) (st18:=y.2.2.2) h hE (fun b_17 n_1 v2 st18=>hc (b_17,n_1,v2,st18))) N (b_0,0,0,st) h23))
noncomputable def Zcf.B:Code:=Tryz.f120.body.getD .skip
noncomputable def Zcf.rs (r:Int):List CV:=[oI r]
noncomputable def Zcf (N:Nat) (b_0:Zax):Option Int:=
 some b_0.given
theorem Zcf.snd {b_0:Zax} {r:Int} (h:Zcf N b_0=some r):SndQ Tryz.prog 120 [.one (L.bx 6 b_0.ls)] (Zcf.rs r):=fun st=>
 sO Zcf.B Tryz.func120 fun g0 w0 R hE=>by
  unfold Zcf at h
  obtain rfl:=Zad h
  exact af fol hE [.r [],.r [],.c false,.r [(3,{oe:=b_0.ls})]] [] 0 [] (aI eF (eO b_0.ls))
noncomputable def ZcN.B:Code:=Tryz.f120.body.getD .skip
noncomputable def ZcN.rs (r:Int×LL):List CV:=[oI r.1]
noncomputable def ZcN (N:Nat) (b_0:Option Nat) (st:LL):Option (Int×LL):=
 if (Option.isNone b_0)=true then
  some (0,st)
 else
 optE b_0 fun i1=>
 getE (st[i1]?) Zbf fun x2=>
 some (x2.given,st)
theorem ZcN.snd {b_0:Option Nat} {st:LL} {r:Int×LL} (h:ZcN N b_0 st=some r):Snd Tryz.prog 120 [.one (L.ptr b_0)] st (ZcN.rs r) r.2:=
 sO ZcN.B Tryz.func120 fun g0 w0 R hE=>by
  unfold ZcN at h
  refine iteB h (fun c1 h1=>?_) (fun c1 h2=>?_)
  ·obtain rfl:=Zad h1
   exact af fol hE [.r [],.r [],.c true,.r []] [] 0 [] c1
  ·obtain ⟨i1,rfl,h3⟩:=Zae h2
   obtain ⟨x2,c3,h4⟩:=Zbq h3
   obtain rfl:=Zad h4
   exact af fol hE [.r [],.r [],.c false,.r [(3,{oc:=x2.lo})]] [] 0 [] (aI c1 c3)
noncomputable def Zbl.B:Code:=Tryz.f169.body.getD .skip
noncomputable def Zbl.rs (r:Bool):List CV:=[oB r]
noncomputable def Zbl (N:Nat) (s_0:ZaM):Option Bool:=
 optE (Zco N s_0.point.work s_0.rules.MinWork) fun x1=>
 some (!x1)
theorem Zbl.snd {s_0:ZaM} {r:Bool} (h:Zbl N s_0=some r):SndQ Tryz.prog 169 [.one (L.bx 172 s_0.ls)] (Zbl.rs r):=fun st=>
 sO Zbl.B Tryz.func169 fun g0 w0 R hE=>by
  unfold Zbl at h
  obtain ⟨x1,c1,h1⟩:=Zae h
  obtain rfl:=Zad h1
  exact afd fol hE [.r [],.d {ds:=[(4,{oe:=s_0.ls}),(9,{oe:=s_0.ls}),(10,q1 [oB x1])],hv:=0,Hs:=[]}] [] 0 [] (aJ (eO s_0.ls) (eO s_0.ls) (Zco.snd c1))
noncomputable def ZaT.B:Code:=Tryz.f107.body.getD .skip
noncomputable def ZaT.rs (r:Int×LL):List CV:=[oI r.1]
noncomputable def ZaT.p1 (N:Nat) (now_1:Int) (list_2:LL) (c1_:((Option Nat)×Int×LL)→Option (Int×LL)):((Option Nat)×Int×LL)→Option (Int×LL):=fun (s_121,v1,st122)=>
 if (decide (v1<(len list_2)))=true then
  chk (0≤v1)<|
  getE (list_2[Int.toNat v1]?) Zch fun x123=>
  optE s_121 fun i124=>
  getE (st122[i124]?) Zbp fun x125 x126 x127 x128 x129 x130 x131 x132 x133 x134 x135 x136 x137 x138 x139 x140 x141 x142 x143 x144 x145 x146 x147 x148 x149 x150 x151 x152 x153 x154 x155 x156 x157 x158 x159 x160=>
  optE (Zca N (some i124) x123 now_1 st122) fun (x161,st162)=>
  if (!x161)=true then
   some (8,st162)
  else
  getE (st162[i124]?) Zbp fun x163 x164 x165 x166 x167 x168 x169 x170 x171 x172 x173 x174 x175 x176 x177 x178 x179 x180 x181 x182 x183 x184 x185 x186 x187 x188 x189 x190 x191 x192 x193 x194 x195 x196 x197 x198=>
  optE (ZcT N x123) fun x199=>
  optE (Zak N x194 x148 [[L.arr .u8 32 x199]] st162) fun (x200,st201)=>
  getE (st201[i124]?) Zbp fun x202 x203 x204 x205 x206 x207 x208 x209 x210 x211 x212 x213 x214 x215 x216 x217 x218 x219 x220 x221 x222 x223 x224 x225 x226 x227 x228 x229 x230 x231 x232 x233 x234 x235 x236 x237=>
  optE x233 fun i238=>
  getE (st201[i238]?) Zbf fun x239=>
  optE (Zcf N x239) fun x240=>
  if (decide (x240>x235))=true then
   some (3,st201)
  else
  optE (Zbl N (ZaM.mk (Zai.mk x202 x203 x204 x205 x206 x207 x208 x209 x210 (Zac.mk x211 x212 x213 x214 x215 x216)) (ZaJ.mk (Zat.mk (ZaQ.mk x217 x218 x219 x220 x221) x222 x223) x224) (ZaJ.mk (Zat.mk (ZaQ.mk x225 x226 x227 x228 x229) x230 x231) x232) x239 x234 x235 x236 x237)) fun x241=>
  if x241=true then
   some (0,List.set (List.set st201 i124 [L.int .i64 x202,L.int .i64 x203,L.int .i64 x204,L.int .i64 x205,L.bool x206,L.sl 2 x207,L.sl 33 x208,L.arr .u64 4 x209,L.arr .u64 4 x210,L.int .i64 x211,L.arr .u8 32 x212,L.arr .u8 32 x213,L.int .i64 x214,L.int .i64 x215,L.int .i64 x216,L.int .i64 x217,L.int .i64 x218,L.int .i64 x219,L.int .i64 x220,L.int .i64 x221,L.arr .u8 32 x222,L.sl 1 x223,L.arr .u64 4 x224,L.int .i64 x225,L.int .i64 x226,L.int .i64 x227,L.int .i64 x228,L.int .i64 x229,L.arr .u8 32 x230,L.sl 1 x231,L.arr .u64 4 x232,L.ptr (some i238),L.int .i64 2,L.int .i64 x235,L.int .i64 x236,L.own true 68 x237]) i124 [L.int .i64 x202,L.int .i64 x203,L.int .i64 x204,L.int .i64 x205,L.bool x206,L.sl 2 x207,L.sl 33 x208,L.arr .u64 4 x209,L.arr .u64 4 x210,L.int .i64 x211,L.arr .u8 32 x212,L.arr .u8 32 x213,L.int .i64 x214,L.int .i64 x215,L.int .i64 x216,L.int .i64 x217,L.int .i64 x218,L.int .i64 x219,L.int .i64 x220,L.int .i64 x221,L.arr .u8 32 x222,L.sl 1 x223,L.arr .u64 4 x224,L.int .i64 x217,L.int .i64 x218,L.int .i64 x219,L.int .i64 x220,L.int .i64 x221,L.arr .u8 32 x222,L.sl 1 x223,L.arr .u64 4 x224,L.ptr (some i238),L.int .i64 2,L.int .i64 x235,L.int .i64 x236,L.own true 68 x237])
  else
  c1_ ((some i124),w64 (v1+1),st201)
 else
 some (0,st122)
noncomputable def ZaT (N:Nat) (s_0:Option Nat) (now_1:Int) (list_2 st:LL):Option (Int×LL):=
 loopN (ZaT.p1 N now_1 list_2) N (s_0,0,st)
noncomputable def ZaT.p1.S (s_121:Option Nat) (now_1:Int) (list_2:LL) (v1:Int) (st122:LL):S:=mkS 60 [(0,sP s_121),(1,sI now_1),(10,sV 68 list_2),(11,sI (len list_2)),(12,sI v1)] [] st122
theorem ZaT.p1_ok {s_121 now_1 list_2 v1 st122 r c1_ J1} (h:ZaT.p1 N now_1 list_2 c1_ (s_121,v1,st122)=some r) (hE:En Tryz.f107 g0 w0 (ZaT.rs r) r.2 R) (hc1 : ∀s_121 v1 st122,c1_ (s_121,v1,st122)=some r→At g0 w0 (ZaT.p1.S s_121 now_1 list_2 v1 st122) J1):At g0 w0 (ZaT.p1.S s_121 now_1 list_2 v1 st122) (XK Tryz.prog R (.c (csub ZaT.B [1,0,1,0,0]) :: .h J1 :: [.b 0,.c (csub ZaT.B [1,1])])):=by
 unfold ZaT.p1 at h
 refine iteB h (fun c18 h1=>?_) (fun c18 h2=>?_)
 ·obtain ⟨c19,h3⟩:=ZaO h1
  obtain ⟨x123,c20,h4⟩:=ZbX h3
  obtain ⟨i124,rfl,h5⟩:=Zae h4
  obtain ⟨x125,x126,x127,x128,x129,x130,x131,x132,x133,x134,x135,x136,x137,x138,x139,x140,x141,x142,x143,x144,x145,x146,x147,x148,x149,x150,x151,x152,x153,x154,x155,x156,x157,x158,x159,x160,c22,h6⟩:=Zbk h5
  obtain ⟨⟨x161,st162⟩,c23,h7⟩:=Zae h6
  let o1:List PS:=[.r [],.c true,.r [(1,{oe:=x123.ls})],.r [(6,{oc:=[L.int .i64 x125,L.int .i64 x126,L.int .i64 x127,L.int .i64 x128,L.bool x129,L.sl 2 x130,L.sl 33 x131,L.arr .u64 4 x132,L.arr .u64 4 x133,L.int .i64 x134,L.arr .u8 32 x135,L.arr .u8 32 x136,L.int .i64 x137,L.int .i64 x138,L.int .i64 x139,L.int .i64 x140,L.int .i64 x141,L.int .i64 x142,L.int .i64 x143,L.int .i64 x144,L.arr .u8 32 x145,L.sl 1 x146,L.arr .u64 4 x147,L.int .i64 x148,L.int .i64 x149,L.int .i64 x150,L.int .i64 x151,L.int .i64 x152,L.arr .u8 32 x153,L.sl 1 x154,L.arr .u64 4 x155,L.ptr x156,L.int .i64 x157,L.int .i64 x158,L.int .i64 x159,L.own true 68 x160]})],.r [(3,{rs:=[oB x161],st:=st162})]]
  have t1 {Q:Prop} (q:Q):=aN c18 c19 (oD c18) c20 c22 (Zca.snd c23) q
  refine iteB h7 (fun c24 h8=>?_) (fun c24 h9=>?_)
  ·obtain rfl:=Zad h8
   exact af fol hE (o1 ++ [.c true,.r []]) [] 0 [] (t1 c24)
  ·obtain ⟨x163,x164,x165,x166,x167,x168,x169,x170,x171,x172,x173,x174,x175,x176,x177,x178,x179,x180,x181,x182,x183,x184,x185,x186,x187,x188,x189,x190,x191,x192,x193,x194,x195,x196,x197,x198,c25,h10⟩:=Zbk h9
   obtain ⟨x199,c26,h11⟩:=Zae h10
   obtain ⟨⟨x200,st201⟩,c27,h12⟩:=Zae h11
   obtain ⟨x202,x203,x204,x205,x206,x207,x208,x209,x210,x211,x212,x213,x214,x215,x216,x217,x218,x219,x220,x221,x222,x223,x224,x225,x226,x227,x228,x229,x230,x231,x232,x233,x234,x235,x236,x237,c28,h13⟩:=Zbk h12
   obtain ⟨i238,rfl,h14⟩:=Zae h13
   obtain ⟨x239,c30,h15⟩:=Zbq h14
   obtain ⟨x240,c31,h16⟩:=Zae h15
   let o2:List PS:=o1 ++ [.c false,.d {ds:=[(3,{oc:=[L.int .i64 x163,L.int .i64 x164,L.int .i64 x165,L.int .i64 x166,L.bool x167,L.sl 2 x168,L.sl 33 x169,L.arr .u64 4 x170,L.arr .u64 4 x171,L.int .i64 x172,L.arr .u8 32 x173,L.arr .u8 32 x174,L.int .i64 x175,L.int .i64 x176,L.int .i64 x177,L.int .i64 x178,L.int .i64 x179,L.int .i64 x180,L.int .i64 x181,L.int .i64 x182,L.arr .u8 32 x183,L.sl 1 x184,L.arr .u64 4 x185,L.int .i64 x186,L.int .i64 x187,L.int .i64 x188,L.int .i64 x189,L.int .i64 x190,L.arr .u8 32 x191,L.sl 1 x192,L.arr .u64 4 x193,L.ptr x194,L.int .i64 x195,L.int .i64 x196,L.int .i64 x197,L.own true 68 x198]}),(6,q1 [.agg [L.arr .u8 32 x199]]),(8,{rs:=[oI x200],st:=st201,fz:=[35]})],hv:=384,Hs:=[128,384]},.d {ds:=[(3,{oc:=[L.int .i64 x202,L.int .i64 x203,L.int .i64 x204,L.int .i64 x205,L.bool x206,L.sl 2 x207,L.sl 33 x208,L.arr .u64 4 x209,L.arr .u64 4 x210,L.int .i64 x211,L.arr .u8 32 x212,L.arr .u8 32 x213,L.int .i64 x214,L.int .i64 x215,L.int .i64 x216,L.int .i64 x217,L.int .i64 x218,L.int .i64 x219,L.int .i64 x220,L.int .i64 x221,L.arr .u8 32 x222,L.sl 1 x223,L.arr .u64 4 x224,L.int .i64 x225,L.int .i64 x226,L.int .i64 x227,L.int .i64 x228,L.int .i64 x229,L.arr .u8 32 x230,L.sl 1 x231,L.arr .u64 4 x232,L.ptr (some i238),L.int .i64 x234,L.int .i64 x235,L.int .i64 x236,L.own true 68 x237]}),(4,{rs:=[oI x240],m:=10,cv:=[.one (L.bx 6 x239.ls)]}),(8,{oc:=[L.int .i64 x202,L.int .i64 x203,L.int .i64 x204,L.int .i64 x205,L.bool x206,L.sl 2 x207,L.sl 33 x208,L.arr .u64 4 x209,L.arr .u64 4 x210,L.int .i64 x211,L.arr .u8 32 x212,L.arr .u8 32 x213,L.int .i64 x214,L.int .i64 x215,L.int .i64 x216,L.int .i64 x217,L.int .i64 x218,L.int .i64 x219,L.int .i64 x220,L.int .i64 x221,L.arr .u8 32 x222,L.sl 1 x223,L.arr .u64 4 x224,L.int .i64 x225,L.int .i64 x226,L.int .i64 x227,L.int .i64 x228,L.int .i64 x229,L.arr .u8 32 x230,L.sl 1 x231,L.arr .u64 4 x232,L.ptr (some i238),L.int .i64 x234,L.int .i64 x235,L.int .i64 x236,L.own true 68 x237]})],hv:=16,Hs:=[16]}]
   have t2 {Q:Prop} (q:Q):=t1 (aO c24 c25 c25 (ZcT.snd c26) z0 (eN (1)) (Zak.snd c27) (aM c28 (bO 6 c30 (Zax.bv x239)) (Zcf.snd c31) c28 c28 q))
   refine iteB h16 (fun c32 h17=>?_) (fun c32 h18=>?_)
   ·obtain rfl:=Zad h17
    exact afd fol hE (o2 ++ [.c true,.r []]) [] 0 [] (t2 c32)
   ·obtain ⟨x241,c33,h19⟩:=Zae h18
    let o3:List PS:=o2 ++ [.c false,.r [(1,{rs:=[oB x241],m:=10,cv:=[.one (L.bx 172 (ZaM.ls (ZaM.mk (Zai.mk x202 x203 x204 x205 x206 x207 x208 x209 x210 (Zac.mk x211 x212 x213 x214 x215 x216)) (ZaJ.mk (Zat.mk (ZaQ.mk x217 x218 x219 x220 x221) x222 x223) x224) (ZaJ.mk (Zat.mk (ZaQ.mk x225 x226 x227 x228 x229) x230 x231) x232) x239 x234 x235 x236 x237)))]})]]
    have t3 {Q:Prop} (q:Q):=t2 (aK c32 (bO 172 c28 ((bP (bP (bP (bP (bP (bS (bS (bP (bP (bP (bP (bP (bP (bP (bP (bP (bP (bP (bP (bP (bP (bS (bP (bP (bP (bP (bP (bP (bP (bS (bP (bC 6 c30 (Zax.bv x239) (bP (bP (bP (bW bN)))))))))))))))))))))))))))))))))))):BVs st201 [L.int .i64 x202,L.int .i64 x203,L.int .i64 x204,L.int .i64 x205,L.bool x206,L.sl 2 x207,L.sl 33 x208,L.arr .u64 4 x209,L.arr .u64 4 x210,L.int .i64 x211,L.arr .u8 32 x212,L.arr .u8 32 x213,L.int .i64 x214,L.int .i64 x215,L.int .i64 x216,L.int .i64 x217,L.int .i64 x218,L.int .i64 x219,L.int .i64 x220,L.int .i64 x221,L.arr .u8 32 x222,L.sl 1 x223,L.arr .u64 4 x224,L.int .i64 x225,L.int .i64 x226,L.int .i64 x227,L.int .i64 x228,L.int .i64 x229,L.arr .u8 32 x230,L.sl 1 x231,L.arr .u64 4 x232,L.ptr (some i238),L.int .i64 x234,L.int .i64 x235,L.int .i64 x236,L.own true 68 x237] (ZaM.ls (ZaM.mk (Zai.mk x202 x203 x204 x205 x206 x207 x208 x209 x210 (Zac.mk x211 x212 x213 x214 x215 x216)) (ZaJ.mk (Zat.mk (ZaQ.mk x217 x218 x219 x220 x221) x222 x223) x224) (ZaJ.mk (Zat.mk (ZaQ.mk x225 x226 x227 x228 x229) x230 x231) x232) x239 x234 x235 x236 x237)))) (Zbl.snd c33) q)
    refine iteB h19 (fun c34 h20=>?_) (fun c34 h21=>?_)
    ·obtain rfl:=Zad h20
     exact afd fol hE (o3 ++ [.c true,.r [(5,{oc:=[L.int .i64 x202,L.int .i64 x203,L.int .i64 x204,L.int .i64 x205,L.bool x206,L.sl 2 x207,L.sl 33 x208,L.arr .u64 4 x209,L.arr .u64 4 x210,L.int .i64 x211,L.arr .u8 32 x212,L.arr .u8 32 x213,L.int .i64 x214,L.int .i64 x215,L.int .i64 x216,L.int .i64 x217,L.int .i64 x218,L.int .i64 x219,L.int .i64 x220,L.int .i64 x221,L.arr .u8 32 x222,L.sl 1 x223,L.arr .u64 4 x224,L.int .i64 x225,L.int .i64 x226,L.int .i64 x227,L.int .i64 x228,L.int .i64 x229,L.arr .u8 32 x230,L.sl 1 x231,L.arr .u64 4 x232,L.ptr (some i238),L.int .i64 x234,L.int .i64 x235,L.int .i64 x236,L.own true 68 x237]}),(8,{oc:=[L.int .i64 x202,L.int .i64 x203,L.int .i64 x204,L.int .i64 x205,L.bool x206,L.sl 2 x207,L.sl 33 x208,L.arr .u64 4 x209,L.arr .u64 4 x210,L.int .i64 x211,L.arr .u8 32 x212,L.arr .u8 32 x213,L.int .i64 x214,L.int .i64 x215,L.int .i64 x216,L.int .i64 x217,L.int .i64 x218,L.int .i64 x219,L.int .i64 x220,L.int .i64 x221,L.arr .u8 32 x222,L.sl 1 x223,L.arr .u64 4 x224,L.int .i64 x225,L.int .i64 x226,L.int .i64 x227,L.int .i64 x228,L.int .i64 x229,L.arr .u8 32 x230,L.sl 1 x231,L.arr .u64 4 x232,L.ptr (some i238),L.int .i64 x234,L.int .i64 x235,L.int .i64 x236,L.own true 68 x237]}),(11,{oc:=[L.int .i64 x202,L.int .i64 x203,L.int .i64 x204,L.int .i64 x205,L.bool x206,L.sl 2 x207,L.sl 33 x208,L.arr .u64 4 x209,L.arr .u64 4 x210,L.int .i64 x211,L.arr .u8 32 x212,L.arr .u8 32 x213,L.int .i64 x214,L.int .i64 x215,L.int .i64 x216,L.int .i64 x217,L.int .i64 x218,L.int .i64 x219,L.int .i64 x220,L.int .i64 x221,L.arr .u8 32 x222,L.sl 1 x223,L.arr .u64 4 x224,L.int .i64 x225,L.int .i64 x226,L.int .i64 x227,L.int .i64 x228,L.int .i64 x229,L.arr .u8 32 x230,L.sl 1 x231,L.arr .u64 4 x232,L.ptr (some i238),L.int .i64 2,L.int .i64 x235,L.int .i64 x236,L.own true 68 x237]})],.r []]) [] 0 [] (t3 (aK c34 c28 c28 (Zci c28 [L.int .i64 x202,L.int .i64 x203,L.int .i64 x204,L.int .i64 x205,L.bool x206,L.sl 2 x207,L.sl 33 x208,L.arr .u64 4 x209,L.arr .u64 4 x210,L.int .i64 x211,L.arr .u8 32 x212,L.arr .u8 32 x213,L.int .i64 x214,L.int .i64 x215,L.int .i64 x216,L.int .i64 x217,L.int .i64 x218,L.int .i64 x219,L.int .i64 x220,L.int .i64 x221,L.arr .u8 32 x222,L.sl 1 x223,L.arr .u64 4 x224,L.int .i64 x225,L.int .i64 x226,L.int .i64 x227,L.int .i64 x228,L.int .i64 x229,L.arr .u8 32 x230,L.sl 1 x231,L.arr .u64 4 x232,L.ptr (some i238),L.int .i64 2,L.int .i64 x235,L.int .i64 x236,L.own true 68 x237])))
    ·exact and_ fol (o3 ++ [.c false,.r []]) [0,1,10,11,12] [] (t3 c34) (hc1 (some i124) (w64 (v1+1)) st201 h21)
 ·obtain rfl:=Zad h2
  exact af fol hE [.r [],.c false,.r []] [] 0 [] c18
theorem ZaT.snd {s_0:Option Nat} {now_1:Int} {list_2:LL} {st:LL} {r:Int×LL} (h:ZaT N s_0 now_1 list_2 st=some r):Snd Tryz.prog 107 [.one (L.ptr s_0),oI now_1,.one (L.sl 68 list_2)] st (ZaT.rs r) r.2:=
 sO ZaT.B Tryz.func107 fun g0 w0 R hE=>by
  unfold ZaT at h
  exact aq fol [.r [],.r []] [0,1,10,11,12] [] trivial (At.loop N (At.loopN (fun y:(Option Nat)×Int×LL=>ZaT.p1.S y.1 now_1 list_2 y.2.1 y.2.2) (fun c J hc y h=>ZaT.p1_ok (s_121:=y.1) (v1:=y.2.1) (st122:=y.2.2) h hE (fun s_121 v1 st122=>hc (s_121,v1,st122))) N (s_0,0,st) h))
noncomputable def Zct.B:Code:=Tryz.f203.body.getD .skip
noncomputable def Zct.rs (r:Bool):List CV:=[oB r]
noncomputable def Zct (N:Nat) (b_0:Zax) (i_1:Int):Option Bool:=
 chk (0≤(w64 (Int.tdiv i_1 64)))<|
 chk ((w64 (Int.tdiv i_1 64))<(len b_0.words))<|
 getE (b_0.words[Int.toNat (w64 (Int.tdiv i_1 64))]?) Zga fun x1=>
 chk (0≤(Int.tmod i_1 64))<|
 some ((bitsOf .and .u64 (shrOf .u64 x1 (Int.tmod i_1 64)) 1)==1)
theorem Zct.snd {b_0:Zax} {i_1:Int} {r:Bool} (h:Zct N b_0 i_1=some r):SndQ Tryz.prog 203 [.one (L.bx 6 b_0.ls),oI i_1] (Zct.rs r):=fun st=>
 sO Zct.B Tryz.func203 fun g0 w0 R hE=>by
  unfold Zct at h
  obtain ⟨c1,c2,h1⟩:=ck2 h
  obtain ⟨x1,c3,h2⟩:=ZfZ h1
  obtain ⟨c4,h3⟩:=ZaO h2
  obtain rfl:=Zad h3
  exact af fol hE [.r [],.r [(3,{oe:=b_0.ls}),(7,{oe:=[L.int .u64 x1]})]] [] 0 [] (aN (eO b_0.ls) (neI 64) c1 c2 c3 (neI 64) c4)
noncomputable def Zdr.B:Code:=Tryz.f203.body.getD .skip
noncomputable def Zdr.rs (r:Bool×LL):List CV:=[oB r.1]
noncomputable def Zdr (N:Nat) (b_0:Option Nat) (i_1:Int) (st:LL):Option (Bool×LL):=
 optE b_0 fun i1=>
 getE (st[i1]?) Zbf fun x2=>
 chk (0≤(w64 (Int.tdiv i_1 64)))<|
 chk ((w64 (Int.tdiv i_1 64))<(len x2.words))<|
 getE (x2.words[0+(Int.toNat (w64 (Int.tdiv i_1 64)))]?) Zga fun x3=>
 chk (0≤(Int.tmod i_1 64))<|
 some ((bitsOf .and .u64 (shrOf .u64 x3 (Int.tmod i_1 64)) 1)==1,st)
theorem Zdr.snd {b_0:Option Nat} {i_1:Int} {st:LL} {r:Bool×LL} (h:Zdr N b_0 i_1 st=some r):Snd Tryz.prog 203 [.one (L.ptr b_0),oI i_1] st (Zdr.rs r) r.2:=
 sO Zdr.B Tryz.func203 fun g0 w0 R hE=>by
  unfold Zdr at h
  obtain ⟨i1,rfl,h1⟩:=Zae h
  obtain ⟨x2,c2,h2⟩:=Zbq h1
  obtain ⟨c3,c4,h3⟩:=ck2 h2
  obtain ⟨x3,c5,h4⟩:=ZfZ h3
  obtain ⟨c6,h5⟩:=ZaO h4
  obtain rfl:=Zad h5
  exact af fol hE [.r [],.r [(3,{oc:=x2.lo}),(7,{oc:=x2.lo,oe:=[L.int .u64 x3]})]] [] 0 [] (aO c2 (neI 64) c3 c4 c5 c2 (neI 64) c6)
noncomputable def Zcn.B:Code:=Tryz.f170.body.getD .skip
noncomputable def Zcn.rs (r:Bool×LL):List CV:=[oB r.1]
noncomputable def Zcn (N:Nat) (b_0:Option Nat) (height_1:Int) (id_2_0:List Int) (st:LL):Option (Bool×LL):=
 if (Option.isNone b_0)=true then
  some (false,st)
 else
 optE b_0 fun i1=>
 getE (st[i1]?) Zbf fun x2=>
 optE (Zcj N x2.Plan height_1) fun x3=>
 if (!x3)=true then
  some (true,st)
 else
 if (decide (x2.met≥x2.given))=true then
  some (false,st)
 else
 optE (Zct N x2 x2.met) fun x4=>
 optE (ZbH N x2.Plan id_2_0 st) fun (x5,st6)=>
 if (!(x4==x5))=true then
  some (false,st6)
 else
 getE (st6[i1]?) Zbf fun x7=>
 some (true,List.set st6 i1 (Zax.lo {x7 with met:=w64 (x7.met+1)}))
theorem Zcn.snd {b_0:Option Nat} {height_1:Int} {id_2_0:List Int} {st:LL} {r:Bool×LL} (h:Zcn N b_0 height_1 id_2_0 st=some r):Snd Tryz.prog 170 [.one (L.ptr b_0),oI height_1,.agg [L.arr .u8 32 id_2_0]] st (Zcn.rs r) r.2:=
 sO Zcn.B Tryz.func170 fun g0 w0 R hE=>by
  unfold Zcn at h
  refine iteB h (fun c1 h1=>?_) (fun c1 h2=>?_)
  ·obtain rfl:=Zad h1
   exact af fol hE [.r [],.r [],.c true,.r []] [] 0 [] c1
  ·obtain ⟨i1,rfl,h3⟩:=Zae h2
   obtain ⟨x2,c3,h4⟩:=Zbq h3
   obtain ⟨x3,c4,h5⟩:=Zae h4
   let o1:List PS:=[.r [],.r [],.c false,.r [(3,{oc:=x2.lo}),(5,q1 [oB x3])]]
   have t1 {Q:Prop} (q:Q):=aK c1 c3 (Zcj.snd c4) q
   refine iteB h5 (fun c5 h6=>?_) (fun c5 h7=>?_)
   ·obtain rfl:=Zad h6
    exact af fol hE (o1 ++ [.c true,.r []]) [] 0 [] (t1 c5)
   ·refine iteB h7 (fun c6 h8=>?_) (fun c6 h9=>?_)
    ·obtain rfl:=Zad h8
     exact afd fol hE (o1 ++ [.c false,.d {ds:=[(3,{oc:=x2.lo}),(7,{oc:=x2.lo}),(10,wF),(11,wF),(12,wF),(13,wF),(14,wF),(15,wF),(16,wF),(17,wF),(18,wF),(19,wF),(20,wF),(21,wF),(22,wF)],hv:=0,Hs:=[]},.c true,.r []]) [] 0 [] (t1 (aO c5 c3 c3 c6 c6 c6 c6 (aO c6 c6 c6 c6 c6 c6 c6 (aK c6 c6 c6 eT))))
    ·obtain ⟨x4,c7,h10⟩:=Zae h9
     obtain ⟨⟨x5,st6⟩,c8,h11⟩:=Zae h10
     let o2:List PS:=o1 ++ [.c false,.d {ds:=[(3,{oc:=x2.lo}),(7,{oc:=x2.lo}),(14,{oc:=x2.lo}),(15,{rs:=[oB x4],m:=10,cv:=[.one (L.bx 6 x2.ls)]}),(19,{oc:=x2.lo}),(21,{rs:=[oB x5],st:=st6}),(23,yF)],hv:=2129920,Hs:=[32768,2129920]}]
     have t2 {Q:Prop} (q:Q):=t1 (aO c5 c3 c3 c6 c6 c6 c6 (aO c6 c3 c6 (bO 6 c3 (Zax.bv x2)) (Zct.snd c7) c6 c6 (aO c6 c6 c6 c6 c6 c3 c6 (aO c3 c6 c6 c6 (ZbH.snd c8) c6 c6 q))))
     refine iteB h11 (fun c9 h12=>?_) (fun c9 h13=>?_)
     ·obtain rfl:=Zad h12
      exact afd fol hE (o2 ++ [.c true,.r []]) [] 0 [] (t2 c9)
     ·obtain ⟨x7,c10,h14⟩:=Zbq h13
      obtain rfl:=Zad h14
      exact afd fol hE (o2 ++ [.c false,.r [(3,{oc:=x7.lo}),(7,{oc:=x7.lo})],.r []]) [] 0 [] (t2 (aJ c9 c10 c10))
noncomputable def Zan.B:Code:=Tryz.f108.body.getD .skip
noncomputable def Zan.rs (r:Int×LL):List CV:=[oI r.1]
noncomputable def Zan.p3 (N:Nat) (c1_:((Option Nat)×Int×LL)→Option (Int×LL)) (i126:Nat) (now_1:Int) (list_2:LL) (v1 x197:Int) (v204:Bool) (st245:LL):Option (Int×LL):=
 c1_ ((some i126),w64 (v1+1),st245)
noncomputable def Zan.p2 (N:Nat) (c1_:((Option Nat)×Int×LL)→Option (Int×LL)) (i126:Nat) (now_1:Int) (list_2:LL) (v1 x197:Int) (v204:Bool) (x125:Zac) (st205:LL):Option (Int×LL):=
 getE (st205[i126]?) Zbp fun x206 x207 x208 x209 x210 x211 x212 x213 x214 x215 x216 x217 x218 x219 x220 x221 x222 x223 x224 x225 x226 x227 x228 x229 x230 x231 x232 x233 x234 x235 x236 x237 x238 x239 x240 x241=>
 chk (List.length (x241 ++ [x125.ls])*96≤140737488355328)<|
 optE x237 fun i242=>
 getE ((List.set (List.set st205 i126 [L.int .i64 x206,L.int .i64 x207,L.int .i64 x208,L.int .i64 x209,L.bool x210,L.sl 2 x211,L.sl 33 x212,L.arr .u64 4 x213,L.arr .u64 4 x214,L.int .i64 x215,L.arr .u8 32 x216,L.arr .u8 32 x217,L.int .i64 x218,L.int .i64 x219,L.int .i64 x220,L.int .i64 x221,L.int .i64 x222,L.int .i64 x223,L.int .i64 x224,L.int .i64 x225,L.arr .u8 32 x226,L.sl 1 x227,L.arr .u64 4 x228,L.int .i64 x229,L.int .i64 x230,L.int .i64 x231,L.int .i64 x232,L.int .i64 x233,L.arr .u8 32 x234,L.sl 1 x235,L.arr .u64 4 x236,L.ptr (some i242),L.int .i64 x238,L.int .i64 x239,L.int .i64 x240,L.gone]) i126 [L.int .i64 x206,L.int .i64 x207,L.int .i64 x208,L.int .i64 x209,L.bool x210,L.sl 2 x211,L.sl 33 x212,L.arr .u64 4 x213,L.arr .u64 4 x214,L.int .i64 x215,L.arr .u8 32 x216,L.arr .u8 32 x217,L.int .i64 x218,L.int .i64 x219,L.int .i64 x220,L.int .i64 x221,L.int .i64 x222,L.int .i64 x223,L.int .i64 x224,L.int .i64 x225,L.arr .u8 32 x226,L.sl 1 x227,L.arr .u64 4 x228,L.int .i64 x229,L.int .i64 x230,L.int .i64 x231,L.int .i64 x232,L.int .i64 x233,L.arr .u8 32 x234,L.sl 1 x235,L.arr .u64 4 x236,L.ptr (some i242),L.int .i64 x238,L.int .i64 x239,L.int .i64 x240,L.own true 68 (x241 ++ [x125.ls])])[i242]?) Zbf fun x243=>
 optE (Zbl N (ZaM.mk (Zai.mk x206 x207 x208 x209 x210 x211 x212 x213 x214 (Zac.mk x215 x216 x217 x218 x219 x220)) (ZaJ.mk (Zat.mk (ZaQ.mk x221 x222 x223 x224 x225) x226 x227) x228) (ZaJ.mk (Zat.mk (ZaQ.mk x229 x230 x231 x232 x233) x234 x235) x236) x243 x238 x239 x240 (x241 ++ [x125.ls]))) fun x244=>
 if x244=true then
  Zan.p3 N c1_ i126 now_1 list_2 v1 x197 v204 (List.set (List.set (List.set st205 i126 [L.int .i64 x206,L.int .i64 x207,L.int .i64 x208,L.int .i64 x209,L.bool x210,L.sl 2 x211,L.sl 33 x212,L.arr .u64 4 x213,L.arr .u64 4 x214,L.int .i64 x215,L.arr .u8 32 x216,L.arr .u8 32 x217,L.int .i64 x218,L.int .i64 x219,L.int .i64 x220,L.int .i64 x221,L.int .i64 x222,L.int .i64 x223,L.int .i64 x224,L.int .i64 x225,L.arr .u8 32 x226,L.sl 1 x227,L.arr .u64 4 x228,L.int .i64 x229,L.int .i64 x230,L.int .i64 x231,L.int .i64 x232,L.int .i64 x233,L.arr .u8 32 x234,L.sl 1 x235,L.arr .u64 4 x236,L.ptr (some i242),L.int .i64 x238,L.int .i64 x239,L.int .i64 x240,L.gone]) i126 [L.int .i64 x206,L.int .i64 x207,L.int .i64 x208,L.int .i64 x209,L.bool x210,L.sl 2 x211,L.sl 33 x212,L.arr .u64 4 x213,L.arr .u64 4 x214,L.int .i64 x215,L.arr .u8 32 x216,L.arr .u8 32 x217,L.int .i64 x218,L.int .i64 x219,L.int .i64 x220,L.int .i64 x221,L.int .i64 x222,L.int .i64 x223,L.int .i64 x224,L.int .i64 x225,L.arr .u8 32 x226,L.sl 1 x227,L.arr .u64 4 x228,L.int .i64 x229,L.int .i64 x230,L.int .i64 x231,L.int .i64 x232,L.int .i64 x233,L.arr .u8 32 x234,L.sl 1 x235,L.arr .u64 4 x236,L.ptr (some i242),L.int .i64 x238,L.int .i64 x239,L.int .i64 x240,L.own true 68 (x241 ++ [x125.ls])]) i126 [L.int .i64 x206,L.int .i64 x207,L.int .i64 x208,L.int .i64 x209,L.bool x210,L.sl 2 x211,L.sl 33 x212,L.arr .u64 4 x213,L.arr .u64 4 x214,L.int .i64 x215,L.arr .u8 32 x216,L.arr .u8 32 x217,L.int .i64 x218,L.int .i64 x219,L.int .i64 x220,L.int .i64 x221,L.int .i64 x222,L.int .i64 x223,L.int .i64 x224,L.int .i64 x225,L.arr .u8 32 x226,L.sl 1 x227,L.arr .u64 4 x228,L.int .i64 x229,L.int .i64 x230,L.int .i64 x231,L.int .i64 x232,L.int .i64 x233,L.arr .u8 32 x234,L.sl 1 x235,L.arr .u64 4 x236,L.ptr (some i242),L.int .i64 3,L.int .i64 x239,L.int .i64 x240,L.own true 68 (x241 ++ [x125.ls])])
 else
 Zan.p3 N c1_ i126 now_1 list_2 v1 x197 v204 (List.set (List.set st205 i126 [L.int .i64 x206,L.int .i64 x207,L.int .i64 x208,L.int .i64 x209,L.bool x210,L.sl 2 x211,L.sl 33 x212,L.arr .u64 4 x213,L.arr .u64 4 x214,L.int .i64 x215,L.arr .u8 32 x216,L.arr .u8 32 x217,L.int .i64 x218,L.int .i64 x219,L.int .i64 x220,L.int .i64 x221,L.int .i64 x222,L.int .i64 x223,L.int .i64 x224,L.int .i64 x225,L.arr .u8 32 x226,L.sl 1 x227,L.arr .u64 4 x228,L.int .i64 x229,L.int .i64 x230,L.int .i64 x231,L.int .i64 x232,L.int .i64 x233,L.arr .u8 32 x234,L.sl 1 x235,L.arr .u64 4 x236,L.ptr (some i242),L.int .i64 x238,L.int .i64 x239,L.int .i64 x240,L.gone]) i126 [L.int .i64 x206,L.int .i64 x207,L.int .i64 x208,L.int .i64 x209,L.bool x210,L.sl 2 x211,L.sl 33 x212,L.arr .u64 4 x213,L.arr .u64 4 x214,L.int .i64 x215,L.arr .u8 32 x216,L.arr .u8 32 x217,L.int .i64 x218,L.int .i64 x219,L.int .i64 x220,L.int .i64 x221,L.int .i64 x222,L.int .i64 x223,L.int .i64 x224,L.int .i64 x225,L.arr .u8 32 x226,L.sl 1 x227,L.arr .u64 4 x228,L.int .i64 x229,L.int .i64 x230,L.int .i64 x231,L.int .i64 x232,L.int .i64 x233,L.arr .u8 32 x234,L.sl 1 x235,L.arr .u64 4 x236,L.ptr (some i242),L.int .i64 x238,L.int .i64 x239,L.int .i64 x240,L.own true 68 (x241 ++ [x125.ls])])
noncomputable def Zan.p1 (N:Nat) (now_1:Int) (list_2:LL) (c1_:((Option Nat)×Int×LL)→Option (Int×LL)):((Option Nat)×Int×LL)→Option (Int×LL):=fun (s_123,v1,st124)=>
 if (decide (v1<(len list_2)))=true then
  chk (0≤v1)<|
  getE (list_2[Int.toNat v1]?) Zch fun x125=>
  optE s_123 fun i126=>
  getE (st124[i126]?) Zbp fun x127 x128 x129 x130 x131 x132 x133 x134 x135 x136 x137 x138 x139 x140 x141 x142 x143 x144 x145 x146 x147 x148 x149 x150 x151 x152 x153 x154 x155 x156 x157 x158 x159 x160 x161 x162=>
  optE (Zca N (some i126) x125 now_1 st124) fun (x163,st164)=>
  if (!x163)=true then
   some (8,st164)
  else
  getE (st164[i126]?) Zbp fun x165 x166 x167 x168 x169 x170 x171 x172 x173 x174 x175 x176 x177 x178 x179 x180 x181 x182 x183 x184 x185 x186 x187 x188 x189 x190 x191 x192 x193 x194 x195 x196 x197 x198 x199 x200=>
  if (x197==2)=true then
   optE (ZcT N x125) fun x201=>
   optE (Zcn N x196 x150 x201 st164) fun (x202,st203)=>
   if (!x202)=true then
    some (8,st203)
   else
   Zan.p2 N c1_ i126 now_1 list_2 v1 x197 (!x202) x125 st203
  else
  Zan.p2 N c1_ i126 now_1 list_2 v1 x197 false x125 st164
 else
 some (0,st124)
noncomputable def Zan (N:Nat) (s_0:Option Nat) (now_1:Int) (list_2 st:LL):Option (Int×LL):=
 loopN (Zan.p1 N now_1 list_2) N (s_0,0,st)
noncomputable def Zan.p3.S (i126:Nat) (now_1:Int) (list_2:LL) (v1 x197:Int) (v204:Bool) (st245:LL):S:=mkS 62 [(0,sP (some i126)),(1,sI now_1),(10,sV 68 list_2),(11,sI (len list_2)),(12,sI v1),(29,sP (some i126)),(30,sP (some i126)),(31,.one (.adr (.obj i126) 168)),(32,sI x197),(33,.one (.l (L.bool (x197==2)))),(34,.one (.l (L.bool (x197==2)))),(44,.one (.l (L.bool v204)))] [] st245
noncomputable def Zan.p2.S (i126:Nat) (now_1:Int) (list_2:LL) (v1 x197:Int) (v204:Bool) (x125:Zac) (st205:LL):S:=mkS 62 [(0,sP (some i126)),(1,sI now_1),(8,sA 8),(10,sV 68 list_2),(11,sI (len list_2)),(12,sI v1),(29,sP (some i126)),(30,sP (some i126)),(31,.one (.adr (.obj i126) 168)),(32,sI x197),(33,.one (.l (L.bool (x197==2)))),(34,.one (.l (L.bool (x197==2)))),(44,.one (.l (L.bool v204)))] [(8,.cells x125.ls)] st205
noncomputable def Zan.p1.S (s_123:Option Nat) (now_1:Int) (list_2:LL) (v1:Int) (st124:LL):S:=mkS 62 [(0,sP s_123),(1,sI now_1),(10,sV 68 list_2),(11,sI (len list_2)),(12,sI v1)] [] st124
theorem Zan.p3_ok {i126 now_1 list_2 v1 x197 v204 st245 r c1_ J1} (h:Zan.p3 N c1_ i126 now_1 list_2 v1 x197 v204 st245=some r) (hE:En Tryz.f108 g0 w0 (Zan.rs r) r.2 R) (hc1 : ∀s_123 v1 st124,c1_ (s_123,v1,st124)=some r→At g0 w0 (Zan.p1.S s_123 now_1 list_2 v1 st124) J1):At g0 w0 (Zan.p3.S i126 now_1 list_2 v1 x197 v204 st245) (XK Tryz.prog R [.c (csub Zan.B [1,0,1,0,0,1,1,1]),.h J1,.b 0,.c (csub Zan.B [1,1])]):=by
 unfold Zan.p3 at h
 exact an fol [.r []] [0,1,10,11,12] [] trivial (hc1 (some i126) (w64 (v1+1)) st245 h)
theorem Zan.p2_ok {i126 now_1 list_2 v1 x197 v204 x125 st205 r c1_ J1} (h:Zan.p2 N c1_ i126 now_1 list_2 v1 x197 v204 x125 st205=some r) (hE:En Tryz.f108 g0 w0 (Zan.rs r) r.2 R) (hc1 : ∀s_123 v1 st124,c1_ (s_123,v1,st124)=some r→At g0 w0 (Zan.p1.S s_123 now_1 list_2 v1 st124) J1):At g0 w0 (Zan.p2.S i126 now_1 list_2 v1 x197 v204 x125 st205) (XK Tryz.prog R [.c (csub Zan.B [1,0,1,0,0,1,1,0,0,1,1,1]),.b 1,.c (csub Zan.B [1,0,1,0,0,1,1,1]),.h J1,.b 0,.c (csub Zan.B [1,1])]):=by
 unfold Zan.p2 at h
 obtain ⟨x206,x207,x208,x209,x210,x211,x212,x213,x214,x215,x216,x217,x218,x219,x220,x221,x222,x223,x224,x225,x226,x227,x228,x229,x230,x231,x232,x233,x234,x235,x236,x237,x238,x239,x240,x241,c31,h1⟩:=Zbk h
 obtain ⟨c32,h2⟩:=ZaO h1
 obtain ⟨i242,rfl,h3⟩:=Zae h2
 obtain ⟨x243,c34,h4⟩:=Zbq h3
 obtain ⟨x244,c35,h5⟩:=Zae h4
 let o1:List PS:=[.d {ds:=[(4,{oc:=[L.int .i64 x206,L.int .i64 x207,L.int .i64 x208,L.int .i64 x209,L.bool x210,L.sl 2 x211,L.sl 33 x212,L.arr .u64 4 x213,L.arr .u64 4 x214,L.int .i64 x215,L.arr .u8 32 x216,L.arr .u8 32 x217,L.int .i64 x218,L.int .i64 x219,L.int .i64 x220,L.int .i64 x221,L.int .i64 x222,L.int .i64 x223,L.int .i64 x224,L.int .i64 x225,L.arr .u8 32 x226,L.sl 1 x227,L.arr .u64 4 x228,L.int .i64 x229,L.int .i64 x230,L.int .i64 x231,L.int .i64 x232,L.int .i64 x233,L.arr .u8 32 x234,L.sl 1 x235,L.arr .u64 4 x236,L.ptr (some i242),L.int .i64 x238,L.int .i64 x239,L.int .i64 x240,L.own true 68 x241]}),(7,{oe:=[L.int .i64 x206,L.int .i64 x207,L.int .i64 x208,L.int .i64 x209,L.bool x210,L.sl 2 x211,L.sl 33 x212,L.arr .u64 4 x213,L.arr .u64 4 x214,L.int .i64 x215,L.arr .u8 32 x216,L.arr .u8 32 x217,L.int .i64 x218,L.int .i64 x219,L.int .i64 x220,L.int .i64 x221,L.int .i64 x222,L.int .i64 x223,L.int .i64 x224,L.int .i64 x225,L.arr .u8 32 x226,L.sl 1 x227,L.arr .u64 4 x228,L.int .i64 x229,L.int .i64 x230,L.int .i64 x231,L.int .i64 x232,L.int .i64 x233,L.arr .u8 32 x234,L.sl 1 x235,L.arr .u64 4 x236,L.ptr (some i242),L.int .i64 x238,L.int .i64 x239,L.int .i64 x240,L.own true 68 x241]}),(10,{oc:=[L.int .i64 x206,L.int .i64 x207,L.int .i64 x208,L.int .i64 x209,L.bool x210,L.sl 2 x211,L.sl 33 x212,L.arr .u64 4 x213,L.arr .u64 4 x214,L.int .i64 x215,L.arr .u8 32 x216,L.arr .u8 32 x217,L.int .i64 x218,L.int .i64 x219,L.int .i64 x220,L.int .i64 x221,L.int .i64 x222,L.int .i64 x223,L.int .i64 x224,L.int .i64 x225,L.arr .u8 32 x226,L.sl 1 x227,L.arr .u64 4 x228,L.int .i64 x229,L.int .i64 x230,L.int .i64 x231,L.int .i64 x232,L.int .i64 x233,L.arr .u8 32 x234,L.sl 1 x235,L.arr .u64 4 x236,L.ptr (some i242),L.int .i64 x238,L.int .i64 x239,L.int .i64 x240,L.gone],mv:=[53]})],hv:=1216,Hs:=[64,192,1216]},.r [(1,{rs:=[oB x244],m:=10,cv:=[.one (L.bx 172 (ZaM.ls (ZaM.mk (Zai.mk x206 x207 x208 x209 x210 x211 x212 x213 x214 (Zac.mk x215 x216 x217 x218 x219 x220)) (ZaJ.mk (Zat.mk (ZaQ.mk x221 x222 x223 x224 x225) x226 x227) x228) (ZaJ.mk (Zat.mk (ZaQ.mk x229 x230 x231 x232 x233) x234 x235) x236) x243 x238 x239 x240 (x241 ++ [x125.ls]))))]})]]
 have t1 {Q:Prop} (q:Q):=aO c31 c31 z0 (eN (List.length x241)) c31 z0 (eN (1)) (aN c32 (Zci c31 [L.int .i64 x206,L.int .i64 x207,L.int .i64 x208,L.int .i64 x209,L.bool x210,L.sl 2 x211,L.sl 33 x212,L.arr .u64 4 x213,L.arr .u64 4 x214,L.int .i64 x215,L.arr .u8 32 x216,L.arr .u8 32 x217,L.int .i64 x218,L.int .i64 x219,L.int .i64 x220,L.int .i64 x221,L.int .i64 x222,L.int .i64 x223,L.int .i64 x224,L.int .i64 x225,L.arr .u8 32 x226,L.sl 1 x227,L.arr .u64 4 x228,L.int .i64 x229,L.int .i64 x230,L.int .i64 x231,L.int .i64 x232,L.int .i64 x233,L.arr .u8 32 x234,L.sl 1 x235,L.arr .u64 4 x236,L.ptr (some i242),L.int .i64 x238,L.int .i64 x239,L.int .i64 x240,L.gone]) z0 (eN (List.length (x241 ++ [x125.ls]))) (bO 172 (Zci (Zci c31 [L.int .i64 x206,L.int .i64 x207,L.int .i64 x208,L.int .i64 x209,L.bool x210,L.sl 2 x211,L.sl 33 x212,L.arr .u64 4 x213,L.arr .u64 4 x214,L.int .i64 x215,L.arr .u8 32 x216,L.arr .u8 32 x217,L.int .i64 x218,L.int .i64 x219,L.int .i64 x220,L.int .i64 x221,L.int .i64 x222,L.int .i64 x223,L.int .i64 x224,L.int .i64 x225,L.arr .u8 32 x226,L.sl 1 x227,L.arr .u64 4 x228,L.int .i64 x229,L.int .i64 x230,L.int .i64 x231,L.int .i64 x232,L.int .i64 x233,L.arr .u8 32 x234,L.sl 1 x235,L.arr .u64 4 x236,L.ptr (some i242),L.int .i64 x238,L.int .i64 x239,L.int .i64 x240,L.gone]) [L.int .i64 x206,L.int .i64 x207,L.int .i64 x208,L.int .i64 x209,L.bool x210,L.sl 2 x211,L.sl 33 x212,L.arr .u64 4 x213,L.arr .u64 4 x214,L.int .i64 x215,L.arr .u8 32 x216,L.arr .u8 32 x217,L.int .i64 x218,L.int .i64 x219,L.int .i64 x220,L.int .i64 x221,L.int .i64 x222,L.int .i64 x223,L.int .i64 x224,L.int .i64 x225,L.arr .u8 32 x226,L.sl 1 x227,L.arr .u64 4 x228,L.int .i64 x229,L.int .i64 x230,L.int .i64 x231,L.int .i64 x232,L.int .i64 x233,L.arr .u8 32 x234,L.sl 1 x235,L.arr .u64 4 x236,L.ptr (some i242),L.int .i64 x238,L.int .i64 x239,L.int .i64 x240,L.own true 68 (x241 ++ [x125.ls])]) ((bP (bP (bP (bP (bP (bS (bS (bP (bP (bP (bP (bP (bP (bP (bP (bP (bP (bP (bP (bP (bP (bS (bP (bP (bP (bP (bP (bP (bP (bS (bP (bC 6 c34 (Zax.bv x243) (bP (bP (bP (bW bN)))))))))))))))))))))))))))))))))))):BVs (List.set (List.set st205 i126 [L.int .i64 x206,L.int .i64 x207,L.int .i64 x208,L.int .i64 x209,L.bool x210,L.sl 2 x211,L.sl 33 x212,L.arr .u64 4 x213,L.arr .u64 4 x214,L.int .i64 x215,L.arr .u8 32 x216,L.arr .u8 32 x217,L.int .i64 x218,L.int .i64 x219,L.int .i64 x220,L.int .i64 x221,L.int .i64 x222,L.int .i64 x223,L.int .i64 x224,L.int .i64 x225,L.arr .u8 32 x226,L.sl 1 x227,L.arr .u64 4 x228,L.int .i64 x229,L.int .i64 x230,L.int .i64 x231,L.int .i64 x232,L.int .i64 x233,L.arr .u8 32 x234,L.sl 1 x235,L.arr .u64 4 x236,L.ptr (some i242),L.int .i64 x238,L.int .i64 x239,L.int .i64 x240,L.gone]) i126 [L.int .i64 x206,L.int .i64 x207,L.int .i64 x208,L.int .i64 x209,L.bool x210,L.sl 2 x211,L.sl 33 x212,L.arr .u64 4 x213,L.arr .u64 4 x214,L.int .i64 x215,L.arr .u8 32 x216,L.arr .u8 32 x217,L.int .i64 x218,L.int .i64 x219,L.int .i64 x220,L.int .i64 x221,L.int .i64 x222,L.int .i64 x223,L.int .i64 x224,L.int .i64 x225,L.arr .u8 32 x226,L.sl 1 x227,L.arr .u64 4 x228,L.int .i64 x229,L.int .i64 x230,L.int .i64 x231,L.int .i64 x232,L.int .i64 x233,L.arr .u8 32 x234,L.sl 1 x235,L.arr .u64 4 x236,L.ptr (some i242),L.int .i64 x238,L.int .i64 x239,L.int .i64 x240,L.own true 68 (x241 ++ [x125.ls])]) [L.int .i64 x206,L.int .i64 x207,L.int .i64 x208,L.int .i64 x209,L.bool x210,L.sl 2 x211,L.sl 33 x212,L.arr .u64 4 x213,L.arr .u64 4 x214,L.int .i64 x215,L.arr .u8 32 x216,L.arr .u8 32 x217,L.int .i64 x218,L.int .i64 x219,L.int .i64 x220,L.int .i64 x221,L.int .i64 x222,L.int .i64 x223,L.int .i64 x224,L.int .i64 x225,L.arr .u8 32 x226,L.sl 1 x227,L.arr .u64 4 x228,L.int .i64 x229,L.int .i64 x230,L.int .i64 x231,L.int .i64 x232,L.int .i64 x233,L.arr .u8 32 x234,L.sl 1 x235,L.arr .u64 4 x236,L.ptr (some i242),L.int .i64 x238,L.int .i64 x239,L.int .i64 x240,L.own true 68 (x241 ++ [x125.ls])] (ZaM.ls (ZaM.mk (Zai.mk x206 x207 x208 x209 x210 x211 x212 x213 x214 (Zac.mk x215 x216 x217 x218 x219 x220)) (ZaJ.mk (Zat.mk (ZaQ.mk x221 x222 x223 x224 x225) x226 x227) x228) (ZaJ.mk (Zat.mk (ZaQ.mk x229 x230 x231 x232 x233) x234 x235) x236) x243 x238 x239 x240 (x241 ++ [x125.ls]))))) (Zbl.snd c35) q)
 refine iteB h5 (fun c36 h6=>?_) (fun c36 h7=>?_)
 ·exact aqd fol (o1 ++ [.c true,.r [(3,{oc:=[L.int .i64 x206,L.int .i64 x207,L.int .i64 x208,L.int .i64 x209,L.bool x210,L.sl 2 x211,L.sl 33 x212,L.arr .u64 4 x213,L.arr .u64 4 x214,L.int .i64 x215,L.arr .u8 32 x216,L.arr .u8 32 x217,L.int .i64 x218,L.int .i64 x219,L.int .i64 x220,L.int .i64 x221,L.int .i64 x222,L.int .i64 x223,L.int .i64 x224,L.int .i64 x225,L.arr .u8 32 x226,L.sl 1 x227,L.arr .u64 4 x228,L.int .i64 x229,L.int .i64 x230,L.int .i64 x231,L.int .i64 x232,L.int .i64 x233,L.arr .u8 32 x234,L.sl 1 x235,L.arr .u64 4 x236,L.ptr (some i242),L.int .i64 x238,L.int .i64 x239,L.int .i64 x240,L.own true 68 (x241 ++ [x125.ls])]})],.s 4]) [0,1,10,11,12,29,30,31,32,33,34,44] [] (t1 (aI c36 (Zci (Zci c31 [L.int .i64 x206,L.int .i64 x207,L.int .i64 x208,L.int .i64 x209,L.bool x210,L.sl 2 x211,L.sl 33 x212,L.arr .u64 4 x213,L.arr .u64 4 x214,L.int .i64 x215,L.arr .u8 32 x216,L.arr .u8 32 x217,L.int .i64 x218,L.int .i64 x219,L.int .i64 x220,L.int .i64 x221,L.int .i64 x222,L.int .i64 x223,L.int .i64 x224,L.int .i64 x225,L.arr .u8 32 x226,L.sl 1 x227,L.arr .u64 4 x228,L.int .i64 x229,L.int .i64 x230,L.int .i64 x231,L.int .i64 x232,L.int .i64 x233,L.arr .u8 32 x234,L.sl 1 x235,L.arr .u64 4 x236,L.ptr (some i242),L.int .i64 x238,L.int .i64 x239,L.int .i64 x240,L.gone]) [L.int .i64 x206,L.int .i64 x207,L.int .i64 x208,L.int .i64 x209,L.bool x210,L.sl 2 x211,L.sl 33 x212,L.arr .u64 4 x213,L.arr .u64 4 x214,L.int .i64 x215,L.arr .u8 32 x216,L.arr .u8 32 x217,L.int .i64 x218,L.int .i64 x219,L.int .i64 x220,L.int .i64 x221,L.int .i64 x222,L.int .i64 x223,L.int .i64 x224,L.int .i64 x225,L.arr .u8 32 x226,L.sl 1 x227,L.arr .u64 4 x228,L.int .i64 x229,L.int .i64 x230,L.int .i64 x231,L.int .i64 x232,L.int .i64 x233,L.arr .u8 32 x234,L.sl 1 x235,L.arr .u64 4 x236,L.ptr (some i242),L.int .i64 x238,L.int .i64 x239,L.int .i64 x240,L.own true 68 (x241 ++ [x125.ls])]))) (Zan.p3_ok h6 hE hc1)
 ·exact aqd fol (o1 ++ [.c false,.s 4]) [0,1,10,11,12,29,30,31,32,33,34,44] [] (t1 c36) (Zan.p3_ok h7 hE hc1)
theorem Zan.p1_ok {s_123 now_1 list_2 v1 st124 r c1_ J1} (h:Zan.p1 N now_1 list_2 c1_ (s_123,v1,st124)=some r) (hE:En Tryz.f108 g0 w0 (Zan.rs r) r.2 R) (hc1 : ∀s_123 v1 st124,c1_ (s_123,v1,st124)=some r→At g0 w0 (Zan.p1.S s_123 now_1 list_2 v1 st124) J1):At g0 w0 (Zan.p1.S s_123 now_1 list_2 v1 st124) (XK Tryz.prog R (.c (csub Zan.B [1,0,1,0,0]) :: .h J1 :: [.b 0,.c (csub Zan.B [1,1])])):=by
 unfold Zan.p1 at h
 refine iteB h (fun c19 h8=>?_) (fun c19 h9=>?_)
 ·obtain ⟨c20,h10⟩:=ZaO h8
  obtain ⟨x125,c21,h11⟩:=ZbX h10
  obtain ⟨i126,rfl,h12⟩:=Zae h11
  obtain ⟨x127,x128,x129,x130,x131,x132,x133,x134,x135,x136,x137,x138,x139,x140,x141,x142,x143,x144,x145,x146,x147,x148,x149,x150,x151,x152,x153,x154,x155,x156,x157,x158,x159,x160,x161,x162,c23,h13⟩:=Zbk h12
  obtain ⟨⟨x163,st164⟩,c24,h14⟩:=Zae h13
  let o2:List PS:=[.r [],.c true,.r [(1,{oe:=x125.ls})],.r [(6,{oc:=[L.int .i64 x127,L.int .i64 x128,L.int .i64 x129,L.int .i64 x130,L.bool x131,L.sl 2 x132,L.sl 33 x133,L.arr .u64 4 x134,L.arr .u64 4 x135,L.int .i64 x136,L.arr .u8 32 x137,L.arr .u8 32 x138,L.int .i64 x139,L.int .i64 x140,L.int .i64 x141,L.int .i64 x142,L.int .i64 x143,L.int .i64 x144,L.int .i64 x145,L.int .i64 x146,L.arr .u8 32 x147,L.sl 1 x148,L.arr .u64 4 x149,L.int .i64 x150,L.int .i64 x151,L.int .i64 x152,L.int .i64 x153,L.int .i64 x154,L.arr .u8 32 x155,L.sl 1 x156,L.arr .u64 4 x157,L.ptr x158,L.int .i64 x159,L.int .i64 x160,L.int .i64 x161,L.own true 68 x162]})]]
  have t2 {Q:Prop} (q:Q):=aN c19 c20 (oD c19) c21 c23 (Zca.snd c24) q
  refine iteB h14 (fun c25 h15=>?_) (fun c25 h16=>?_)
  ·obtain rfl:=Zad h15
   exact afd fol hE (o2 ++ [.d {ds:=[(3,{rs:=[oB x163],st:=st164}),(6,wF),(7,wF),(8,wF),(9,wF),(10,wF),(11,wF),(21,wF)],hv:=8,Hs:=[8]},.c true,.r []]) [] 0 [] (t2 (aO (not_false (Zbh c25)) (not_false (Zbh c25)) (not_false (Zbh c25)) (not_false (Zbh c25)) (not_false (Zbh c25)) (not_false (Zbh c25)) (not_false (Zbh c25)) (aI (not_false (Zbh c25)) eT)))
  ·obtain ⟨x165,x166,x167,x168,x169,x170,x171,x172,x173,x174,x175,x176,x177,x178,x179,x180,x181,x182,x183,x184,x185,x186,x187,x188,x189,x190,x191,x192,x193,x194,x195,x196,x197,x198,x199,x200,c26,h17⟩:=Zbk h16
   have t3 {Q:Prop} (q:Q):=t2 (aO (not_true (Zbe c25)) (not_true (Zbe c25)) (not_true (Zbe c25)) (not_true (Zbe c25)) c26 (not_true (Zbe c25)) (not_true (Zbe c25)) q)
   refine iteB h17 (fun c27 h18=>?_) (fun c27 h19=>?_)
   ·obtain ⟨x201,c28,h20⟩:=Zae h18
    obtain ⟨⟨x202,st203⟩,c29,h21⟩:=Zae h20
    let o3:List PS:=o2 ++ [.d {ds:=[(3,{rs:=[oB x163],st:=st164}),(9,{oc:=[L.int .i64 x165,L.int .i64 x166,L.int .i64 x167,L.int .i64 x168,L.bool x169,L.sl 2 x170,L.sl 33 x171,L.arr .u64 4 x172,L.arr .u64 4 x173,L.int .i64 x174,L.arr .u8 32 x175,L.arr .u8 32 x176,L.int .i64 x177,L.int .i64 x178,L.int .i64 x179,L.int .i64 x180,L.int .i64 x181,L.int .i64 x182,L.int .i64 x183,L.int .i64 x184,L.arr .u8 32 x185,L.sl 1 x186,L.arr .u64 4 x187,L.int .i64 x188,L.int .i64 x189,L.int .i64 x190,L.int .i64 x191,L.int .i64 x192,L.arr .u8 32 x193,L.sl 1 x194,L.arr .u64 4 x195,L.ptr x196,L.int .i64 x197,L.int .i64 x198,L.int .i64 x199,L.own true 68 x200]}),(15,{oc:=[L.int .i64 x165,L.int .i64 x166,L.int .i64 x167,L.int .i64 x168,L.bool x169,L.sl 2 x170,L.sl 33 x171,L.arr .u64 4 x172,L.arr .u64 4 x173,L.int .i64 x174,L.arr .u8 32 x175,L.arr .u8 32 x176,L.int .i64 x177,L.int .i64 x178,L.int .i64 x179,L.int .i64 x180,L.int .i64 x181,L.int .i64 x182,L.int .i64 x183,L.int .i64 x184,L.arr .u8 32 x185,L.sl 1 x186,L.arr .u64 4 x187,L.int .i64 x188,L.int .i64 x189,L.int .i64 x190,L.int .i64 x191,L.int .i64 x192,L.arr .u8 32 x193,L.sl 1 x194,L.arr .u64 4 x195,L.ptr x196,L.int .i64 x197,L.int .i64 x198,L.int .i64 x199,L.own true 68 x200]}),(18,q1 [.agg [L.arr .u8 32 x201]]),(19,{rs:=[oB x202],st:=st203}),(22,yF)],hv:=524296,Hs:=[8,524296]}]
    have t4 {Q:Prop} (q:Q):=t3 (aO c27 c27 c27 c27 c26 c27 c27 (aO c27 (ZcT.snd c28) c27 (Zcn.snd c29) c27 (not_true (Zbe c25)) c27 (aI (not_true (Zbe c25)) q)))
    refine iteB h21 (fun c30 h22=>?_) (fun c30 h23=>?_)
    ·obtain rfl:=Zad h22
     exact afd fol hE (o3 ++ [.c true,.r []]) [] 0 [] (t4 c30)
    ·exact aqd fol (o3 ++ [.c false,.s 6]) [0,1,8,10,11,12,29,30,31,32,33,34,44] [8] (t4 c30) (Zan.p2_ok h23 hE hc1)
   ·exact aqd fol (o2 ++ [.d {ds:=[(3,{rs:=[oB x163],st:=st164}),(9,{oc:=[L.int .i64 x165,L.int .i64 x166,L.int .i64 x167,L.int .i64 x168,L.bool x169,L.sl 2 x170,L.sl 33 x171,L.arr .u64 4 x172,L.arr .u64 4 x173,L.int .i64 x174,L.arr .u8 32 x175,L.arr .u8 32 x176,L.int .i64 x177,L.int .i64 x178,L.int .i64 x179,L.int .i64 x180,L.int .i64 x181,L.int .i64 x182,L.int .i64 x183,L.int .i64 x184,L.arr .u8 32 x185,L.sl 1 x186,L.arr .u64 4 x187,L.int .i64 x188,L.int .i64 x189,L.int .i64 x190,L.int .i64 x191,L.int .i64 x192,L.arr .u8 32 x193,L.sl 1 x194,L.arr .u64 4 x195,L.ptr x196,L.int .i64 x197,L.int .i64 x198,L.int .i64 x199,L.own true 68 x200]}),(12,wF),(13,wF),(14,wF),(15,wF),(16,wF),(17,wF),(18,wF),(19,wF),(20,wF),(21,yF),(22,yF)],hv:=8,Hs:=[8]},.c false,.s 6]) [0,1,8,10,11,12,29,30,31,32,33,34,44] [8] (t3 (aO c27 c27 c27 c27 c27 c27 c27 (aM c27 c27 (not_true (Zbe c25)) c27 (not_true (Zbe c25)) eF))) (Zan.p2_ok h19 hE hc1)
 ·obtain rfl:=Zad h9
  exact af fol hE [.r [],.c false,.r []] [] 0 [] c19
theorem Zan.snd {s_0:Option Nat} {now_1:Int} {list_2:LL} {st:LL} {r:Int×LL} (h:Zan N s_0 now_1 list_2 st=some r):Snd Tryz.prog 108 [.one (L.ptr s_0),oI now_1,.one (L.sl 68 list_2)] st (Zan.rs r) r.2:=
 sO Zan.B Tryz.func108 fun g0 w0 R hE=>by
  unfold Zan at h
  exact aq fol [.r [],.r []] [0,1,10,11,12] [] trivial (At.loop N (At.loopN (fun y:(Option Nat)×Int×LL=>Zan.p1.S y.1 now_1 list_2 y.2.1 y.2.2) (fun c J hc y h=>Zan.p1_ok (s_123:=y.1) (v1:=y.2.1) (st124:=y.2.2) h hE (fun s_123 v1 st124=>hc (s_123,v1,st124))) N (s_0,0,st) h))
noncomputable def ZbE.B:Code:=Tryz.f109.body.getD .skip
noncomputable def ZbE.rs (r:LL×Int×LL):List CV:=[.row true 68 r.1,oI r.2.1]
noncomputable def ZbE (N:Nat) (s_0:Option Nat) (e_1:Int) (st:LL):Option (LL×Int×LL):=
 optE s_0 fun i1=>
 getE (st[i1]?) Zbp fun x2 x3 x4 x5 x6 x7 x8 x9 x10 x11 x12 x13 x14 x15 x16 x17 x18 x19 x20 x21 x22 x23 x24 x25 x26 x27 x28 x29 x30 x31 x32 x33 x34 x35 x36 x37=>
 some ([],e_1,List.set (List.set (List.set st i1 [L.int .i64 x2,L.int .i64 x3,L.int .i64 x4,L.int .i64 x5,L.bool x6,L.sl 2 x7,L.sl 33 x8,L.arr .u64 4 x9,L.arr .u64 4 x10,L.int .i64 x11,L.arr .u8 32 x12,L.arr .u8 32 x13,L.int .i64 x14,L.int .i64 x15,L.int .i64 x16,L.int .i64 x17,L.int .i64 x18,L.int .i64 x19,L.int .i64 x20,L.int .i64 x21,L.arr .u8 32 x22,L.sl 1 x23,L.arr .u64 4 x24,L.int .i64 x25,L.int .i64 x26,L.int .i64 x27,L.int .i64 x28,L.int .i64 x29,L.arr .u8 32 x30,L.sl 1 x31,L.arr .u64 4 x32,L.ptr x33,L.int .i64 x34,L.int .i64 x35,L.int .i64 x36,L.own true 68 (List.replicate (List.length x37) (Zac.ls (Zac.mk 0 (List.replicate 32 0) (List.replicate 32 0) 0 0 0)))]) i1 [L.int .i64 x2,L.int .i64 x3,L.int .i64 x4,L.int .i64 x5,L.bool x6,L.sl 2 x7,L.sl 33 x8,L.arr .u64 4 x9,L.arr .u64 4 x10,L.int .i64 x11,L.arr .u8 32 x12,L.arr .u8 32 x13,L.int .i64 x14,L.int .i64 x15,L.int .i64 x16,L.int .i64 x17,L.int .i64 x18,L.int .i64 x19,L.int .i64 x20,L.int .i64 x21,L.arr .u8 32 x22,L.sl 1 x23,L.arr .u64 4 x24,L.int .i64 x25,L.int .i64 x26,L.int .i64 x27,L.int .i64 x28,L.int .i64 x29,L.arr .u8 32 x30,L.sl 1 x31,L.arr .u64 4 x32,L.ptr x33,L.int .i64 0,L.int .i64 x35,L.int .i64 x36,L.own true 68 (List.replicate (List.length x37) (Zac.ls (Zac.mk 0 (List.replicate 32 0) (List.replicate 32 0) 0 0 0)))]) i1 [L.int .i64 x2,L.int .i64 x3,L.int .i64 x4,L.int .i64 x5,L.bool x6,L.sl 2 x7,L.sl 33 x8,L.arr .u64 4 x9,L.arr .u64 4 x10,L.int .i64 x11,L.arr .u8 32 x12,L.arr .u8 32 x13,L.int .i64 x14,L.int .i64 x15,L.int .i64 x16,L.int .i64 x17,L.int .i64 x18,L.int .i64 x19,L.int .i64 x20,L.int .i64 x21,L.arr .u8 32 x22,L.sl 1 x23,L.arr .u64 4 x24,L.int .i64 x25,L.int .i64 x26,L.int .i64 x27,L.int .i64 x28,L.int .i64 x29,L.arr .u8 32 x30,L.sl 1 x31,L.arr .u64 4 x32,L.ptr x33,L.int .i64 0,L.int .i64 x35,L.int .i64 x36,L.own true 68 []])
theorem ZbE.snd {s_0:Option Nat} {e_1:Int} {st:LL} {r:LL×Int×LL} (h:ZbE N s_0 e_1 st=some r):Snd Tryz.prog 109 [.one (L.ptr s_0),oI e_1] st (ZbE.rs r) r.2.2:=
 sO ZbE.B Tryz.func109 fun g0 w0 R hE=>by
  unfold ZbE at h
  obtain ⟨i1,rfl,h1⟩:=Zae h
  obtain ⟨x2,x3,x4,x5,x6,x7,x8,x9,x10,x11,x12,x13,x14,x15,x16,x17,x18,x19,x20,x21,x22,x23,x24,x25,x26,x27,x28,x29,x30,x31,x32,x33,x34,x35,x36,x37,c2,h2⟩:=Zbk h1
  obtain rfl:=Zad h2
  exact af fol hE [.r [(0,{m:=2})],.r [(3,{oc:=[L.int .i64 x2,L.int .i64 x3,L.int .i64 x4,L.int .i64 x5,L.bool x6,L.sl 2 x7,L.sl 33 x8,L.arr .u64 4 x9,L.arr .u64 4 x10,L.int .i64 x11,L.arr .u8 32 x12,L.arr .u8 32 x13,L.int .i64 x14,L.int .i64 x15,L.int .i64 x16,L.int .i64 x17,L.int .i64 x18,L.int .i64 x19,L.int .i64 x20,L.int .i64 x21,L.arr .u8 32 x22,L.sl 1 x23,L.arr .u64 4 x24,L.int .i64 x25,L.int .i64 x26,L.int .i64 x27,L.int .i64 x28,L.int .i64 x29,L.arr .u8 32 x30,L.sl 1 x31,L.arr .u64 4 x32,L.ptr x33,L.int .i64 x34,L.int .i64 x35,L.int .i64 x36,L.own true 68 x37]}),(4,{oc:=[L.int .i64 x2,L.int .i64 x3,L.int .i64 x4,L.int .i64 x5,L.bool x6,L.sl 2 x7,L.sl 33 x8,L.arr .u64 4 x9,L.arr .u64 4 x10,L.int .i64 x11,L.arr .u8 32 x12,L.arr .u8 32 x13,L.int .i64 x14,L.int .i64 x15,L.int .i64 x16,L.int .i64 x17,L.int .i64 x18,L.int .i64 x19,L.int .i64 x20,L.int .i64 x21,L.arr .u8 32 x22,L.sl 1 x23,L.arr .u64 4 x24,L.int .i64 x25,L.int .i64 x26,L.int .i64 x27,L.int .i64 x28,L.int .i64 x29,L.arr .u8 32 x30,L.sl 1 x31,L.arr .u64 4 x32,L.ptr x33,L.int .i64 x34,L.int .i64 x35,L.int .i64 x36,L.own true 68 x37],oe:=[L.int .i64 0,L.arr .u8 32 (List.replicate 32 0),L.arr .u8 32 (List.replicate 32 0),L.int .i64 0,L.int .i64 0,L.int .i64 0],m:=11})],.r [(4,{oc:=[L.int .i64 x2,L.int .i64 x3,L.int .i64 x4,L.int .i64 x5,L.bool x6,L.sl 2 x7,L.sl 33 x8,L.arr .u64 4 x9,L.arr .u64 4 x10,L.int .i64 x11,L.arr .u8 32 x12,L.arr .u8 32 x13,L.int .i64 x14,L.int .i64 x15,L.int .i64 x16,L.int .i64 x17,L.int .i64 x18,L.int .i64 x19,L.int .i64 x20,L.int .i64 x21,L.arr .u8 32 x22,L.sl 1 x23,L.arr .u64 4 x24,L.int .i64 x25,L.int .i64 x26,L.int .i64 x27,L.int .i64 x28,L.int .i64 x29,L.arr .u8 32 x30,L.sl 1 x31,L.arr .u64 4 x32,L.ptr x33,L.int .i64 x34,L.int .i64 x35,L.int .i64 x36,L.own true 68 (List.replicate (List.length x37) (Zac.ls (Zac.mk 0 (List.replicate 32 0) (List.replicate 32 0) 0 0 0)))]}),(7,{oc:=[L.int .i64 x2,L.int .i64 x3,L.int .i64 x4,L.int .i64 x5,L.bool x6,L.sl 2 x7,L.sl 33 x8,L.arr .u64 4 x9,L.arr .u64 4 x10,L.int .i64 x11,L.arr .u8 32 x12,L.arr .u8 32 x13,L.int .i64 x14,L.int .i64 x15,L.int .i64 x16,L.int .i64 x17,L.int .i64 x18,L.int .i64 x19,L.int .i64 x20,L.int .i64 x21,L.arr .u8 32 x22,L.sl 1 x23,L.arr .u64 4 x24,L.int .i64 x25,L.int .i64 x26,L.int .i64 x27,L.int .i64 x28,L.int .i64 x29,L.arr .u8 32 x30,L.sl 1 x31,L.arr .u64 4 x32,L.ptr x33,L.int .i64 0,L.int .i64 x35,L.int .i64 x36,L.own true 68 (List.replicate (List.length x37) (Zac.ls (Zac.mk 0 (List.replicate 32 0) (List.replicate 32 0) 0 0 0)))],m:=12})],.r [(1,{m:=2})]] [] 0 [0] (aM c2 z0 (@rfl _ (List.length x37):(List.length x37)=(List.length x37)) c2 (Zci c2 [L.int .i64 x2,L.int .i64 x3,L.int .i64 x4,L.int .i64 x5,L.bool x6,L.sl 2 x7,L.sl 33 x8,L.arr .u64 4 x9,L.arr .u64 4 x10,L.int .i64 x11,L.arr .u8 32 x12,L.arr .u8 32 x13,L.int .i64 x14,L.int .i64 x15,L.int .i64 x16,L.int .i64 x17,L.int .i64 x18,L.int .i64 x19,L.int .i64 x20,L.int .i64 x21,L.arr .u8 32 x22,L.sl 1 x23,L.arr .u64 4 x24,L.int .i64 x25,L.int .i64 x26,L.int .i64 x27,L.int .i64 x28,L.int .i64 x29,L.arr .u8 32 x30,L.sl 1 x31,L.arr .u64 4 x32,L.ptr x33,L.int .i64 x34,L.int .i64 x35,L.int .i64 x36,L.own true 68 (List.replicate (List.length x37) (Zac.ls (Zac.mk 0 (List.replicate 32 0) (List.replicate 32 0) 0 0 0)))]) (Zci (Zci c2 [L.int .i64 x2,L.int .i64 x3,L.int .i64 x4,L.int .i64 x5,L.bool x6,L.sl 2 x7,L.sl 33 x8,L.arr .u64 4 x9,L.arr .u64 4 x10,L.int .i64 x11,L.arr .u8 32 x12,L.arr .u8 32 x13,L.int .i64 x14,L.int .i64 x15,L.int .i64 x16,L.int .i64 x17,L.int .i64 x18,L.int .i64 x19,L.int .i64 x20,L.int .i64 x21,L.arr .u8 32 x22,L.sl 1 x23,L.arr .u64 4 x24,L.int .i64 x25,L.int .i64 x26,L.int .i64 x27,L.int .i64 x28,L.int .i64 x29,L.arr .u8 32 x30,L.sl 1 x31,L.arr .u64 4 x32,L.ptr x33,L.int .i64 x34,L.int .i64 x35,L.int .i64 x36,L.own true 68 (List.replicate (List.length x37) (Zac.ls (Zac.mk 0 (List.replicate 32 0) (List.replicate 32 0) 0 0 0)))]) [L.int .i64 x2,L.int .i64 x3,L.int .i64 x4,L.int .i64 x5,L.bool x6,L.sl 2 x7,L.sl 33 x8,L.arr .u64 4 x9,L.arr .u64 4 x10,L.int .i64 x11,L.arr .u8 32 x12,L.arr .u8 32 x13,L.int .i64 x14,L.int .i64 x15,L.int .i64 x16,L.int .i64 x17,L.int .i64 x18,L.int .i64 x19,L.int .i64 x20,L.int .i64 x21,L.arr .u8 32 x22,L.sl 1 x23,L.arr .u64 4 x24,L.int .i64 x25,L.int .i64 x26,L.int .i64 x27,L.int .i64 x28,L.int .i64 x29,L.arr .u8 32 x30,L.sl 1 x31,L.arr .u64 4 x32,L.ptr x33,L.int .i64 0,L.int .i64 x35,L.int .i64 x36,L.own true 68 (List.replicate (List.length x37) (Zac.ls (Zac.mk 0 (List.replicate 32 0) (List.replicate 32 0) 0 0 0)))]))
end Go.Dn.F
