/- Contracts of functions of the program, as shallow functions, and their proofs. -/
import Derived.Test.YtcgdbcfflaphhaaGreatDoorFa
import Derived.Test.YtcgdbcfflaphhaaGreatDoorFaP
set_option linter.all false
set_option maxRecDepth 100000
namespace Go.Dn.F
open Go.Proofs
variable {N:Nat} {g0:G} {w0:World} {R:Exit→Act→World→Prop}
structure Zbr where
  Salt:Int
  Period:Int
  Offset:Int
noncomputable def Zbr.ls (x:Zbr):List L:=[L.int .i64 x.Salt,L.int .i64 x.Period,L.int .i64 x.Offset]
theorem Zbr.bv {st:LL} (x:Zbr):BVs st x.ls x.ls:=(bP (bP (bP bN)))
structure ZaM where
  P:Zan
  Base:LL
  Plan:Zbr
  Size:Int
  Now:Int
noncomputable def ZaM.ls (x:ZaM):List L:=[L.int .i64 x.P.Limit,L.int .i64 x.P.Interval,L.int .i64 x.P.Spacing,L.int .i64 x.P.Future,L.bool x.P.Easy,L.sl 2 x.P.Gates,L.sl 33 x.P.Checks,L.arr .u64 4 x.P.MinWork,L.arr .u64 4 x.P.Margin,L.int .i64 x.P.Genesis.Version,L.arr .u8 32 x.P.Genesis.Prev,L.arr .u8 32 x.P.Genesis.Root,L.int .i64 x.P.Genesis.Time,L.int .i64 x.P.Genesis.Bits,L.int .i64 x.P.Genesis.Nonce,L.sl 68 x.Base,L.int .i64 x.Plan.Salt,L.int .i64 x.Plan.Period,L.int .i64 x.Plan.Offset,L.int .i64 x.Size,L.int .i64 x.Now]
structure ZcP where
  Spot:Zaq
  Work:List Int
noncomputable def ZcP.ls (x:ZcP):List L:=[L.int .i64 x.Spot.Point.Height,L.int .i64 x.Spot.Point.Bits,L.int .i64 x.Spot.Point.Time,L.int .i64 x.Spot.Point.First,L.int .i64 x.Spot.Point.Hard,L.arr .u8 32 x.Spot.Prev,L.sl 1 x.Spot.Times,L.arr .u64 4 x.Work]
structure Zat where
  Plan:Zbr
  words:LL
  given:Int
  met:Int
noncomputable def Zat.lo (x:Zat):List L:=[L.int .i64 x.Plan.Salt,L.int .i64 x.Plan.Period,L.int .i64 x.Plan.Offset,L.own true 1 x.words,L.int .i64 x.given,L.int .i64 x.met]
noncomputable def ZaV {α:Type} (l:List L) (k:Zat→Option α):Option α:=match l with
  | [L.int .i64 x0,L.int .i64 x1,L.int .i64 x2,L.own true 1 x3,L.int .i64 x4,L.int .i64 x5]=>k ⟨⟨x0,x1,x2⟩,x3,x4,x5⟩
  | _=>none
theorem Zbl {α:Type} {o:Option (List L)} {k:Zat→Option α} {r:α} (h:getE o ZaV k=some r) : ∃x:Zat,o=some x.lo∧k x=some r:=by
  obtain ⟨l,e,k1⟩:=Zac h;subst e;unfold ZaV at k1;split at k1
  · exact ⟨_,rfl,k1⟩
  · cases k1
@[simp] theorem ZbL {α:Type} (x:Zat) (k:Zat→Option α):ZaV x.lo k=k x:=rfl
structure ZbF where
  Height:Int
  Version:Int
noncomputable def ZbF.ls (x:ZbF):List L:=[L.int .i64 x.Height,L.int .i64 x.Version]
noncomputable def Zdr {α:Type} (l:List L) (k:ZbF→Option α):Option α:=match l with
  | [L.int .i64 x0,L.int .i64 x1]=>k ⟨x0,x1⟩
  | _=>none
theorem ZdD {α:Type} {o:Option (List L)} {k:ZbF→Option α} {r:α} (h:getE o Zdr k=some r) : ∃x:ZbF,o=some x.ls∧k x=some r:=by
  obtain ⟨l,e,k1⟩:=Zac h;subst e;unfold Zdr at k1;split at k1
  · exact ⟨_,rfl,k1⟩
  · cases k1
@[simp] theorem ZdM {α:Type} (x:ZbF) (k:ZbF→Option α):Zdr x.ls k=k x:=rfl
theorem ZbF.bv {st:LL} (x:ZbF):BVs st x.ls x.ls:=(bP (bP bN))
structure Zbo where
  Height:Int
  Id:List Int
noncomputable def Zbo.ls (x:Zbo):List L:=[L.int .i64 x.Height,L.arr .u8 32 x.Id]
noncomputable def Zdc {α:Type} (l:List L) (k:Zbo→Option α):Option α:=match l with
  | [L.int .i64 x0,L.arr .u8 32 x1]=>k ⟨x0,x1⟩
  | _=>none
theorem Zdx {α:Type} {o:Option (List L)} {k:Zbo→Option α} {r:α} (h:getE o Zdc k=some r) : ∃x:Zbo,o=some x.ls∧k x=some r:=by
  obtain ⟨l,e,k1⟩:=Zac h;subst e;unfold Zdc at k1;split at k1
  · exact ⟨_,rfl,k1⟩
  · cases k1
@[simp] theorem ZdE {α:Type} (x:Zbo) (k:Zbo→Option α):Zdc x.ls k=k x:=rfl
theorem Zbo.bv {st:LL} (x:Zbo):BVs st x.ls x.ls:=(bP (bP bN))
noncomputable def Zat.ls (x:Zat):List L:=[L.int .i64 x.Plan.Salt,L.int .i64 x.Plan.Period,L.int .i64 x.Plan.Offset,L.sl 1 x.words,L.int .i64 x.given,L.int .i64 x.met]
theorem Zat.bv {st:LL} (x:Zat):BVs st x.lo x.ls:=(bP (bP (bP (bW (bP (bP bN))))))
structure ZaF where
  Spot:Zaq
  work:List Int
noncomputable def ZaF.ls (x:ZaF):List L:=[L.int .i64 x.Spot.Point.Height,L.int .i64 x.Spot.Point.Bits,L.int .i64 x.Spot.Point.Time,L.int .i64 x.Spot.Point.First,L.int .i64 x.Spot.Point.Hard,L.arr .u8 32 x.Spot.Prev,L.sl 1 x.Spot.Times,L.arr .u64 4 x.work]
structure ZaE where
  rules:Zan
  start:ZaF
  point:ZaF
  book:Zat
  phase:Int
  most:Int
  size:Int
  buffer:LL
noncomputable def ZaE.ls (x:ZaE):List L:=[L.int .i64 x.rules.Limit,L.int .i64 x.rules.Interval,L.int .i64 x.rules.Spacing,L.int .i64 x.rules.Future,L.bool x.rules.Easy,L.sl 2 x.rules.Gates,L.sl 33 x.rules.Checks,L.arr .u64 4 x.rules.MinWork,L.arr .u64 4 x.rules.Margin,L.int .i64 x.rules.Genesis.Version,L.arr .u8 32 x.rules.Genesis.Prev,L.arr .u8 32 x.rules.Genesis.Root,L.int .i64 x.rules.Genesis.Time,L.int .i64 x.rules.Genesis.Bits,L.int .i64 x.rules.Genesis.Nonce,L.int .i64 x.start.Spot.Point.Height,L.int .i64 x.start.Spot.Point.Bits,L.int .i64 x.start.Spot.Point.Time,L.int .i64 x.start.Spot.Point.First,L.int .i64 x.start.Spot.Point.Hard,L.arr .u8 32 x.start.Spot.Prev,L.sl 1 x.start.Spot.Times,L.arr .u64 4 x.start.work,L.int .i64 x.point.Spot.Point.Height,L.int .i64 x.point.Spot.Point.Bits,L.int .i64 x.point.Spot.Point.Time,L.int .i64 x.point.Spot.Point.First,L.int .i64 x.point.Spot.Point.Hard,L.arr .u8 32 x.point.Spot.Prev,L.sl 1 x.point.Spot.Times,L.arr .u64 4 x.point.work,L.bx 6 x.book.ls,L.int .i64 x.phase,L.int .i64 x.most,L.int .i64 x.size,L.sl 68 x.buffer]
structure ZaU where
  List_:LL
  Now:Int
  More:Bool
noncomputable def ZaU.ls (x:ZaU):List L:=[L.sl 68 x.List_,L.int .i64 x.Now,L.bool x.More]
noncomputable def Zcd {α:Type} (l:List L) (k:ZaU→Option α):Option α:=match l with
  | [L.sl 68 x0,L.int .i64 x1,L.bool x2]=>k ⟨x0,x1,x2⟩
  | _=>none
theorem Zda {α:Type} {o:Option (List L)} {k:ZaU→Option α} {r:α} (h:getE o Zcd k=some r) : ∃x:ZaU,o=some x.ls∧k x=some r:=by
  obtain ⟨l,e,k1⟩:=Zac h;subst e;unfold Zcd at k1;split at k1
  · exact ⟨_,rfl,k1⟩
  · cases k1
@[simp] theorem Zdf {α:Type} (x:ZaU) (k:ZaU→Option α):Zcd x.ls k=k x:=rfl
structure ZbA where
  P:Zan
  Base:LL
  Seen:LL
  Twice:LL
  Told:Int
  Salt:Int
  Period:Int
  Offset:Int
  Size:Int
  Most:Int
  Phase:Int
noncomputable def ZbA.lo (x:ZbA):List L:=[L.int .i64 x.P.Limit,L.int .i64 x.P.Interval,L.int .i64 x.P.Spacing,L.int .i64 x.P.Future,L.bool x.P.Easy,L.sl 2 x.P.Gates,L.sl 33 x.P.Checks,L.arr .u64 4 x.P.MinWork,L.arr .u64 4 x.P.Margin,L.int .i64 x.P.Genesis.Version,L.arr .u8 32 x.P.Genesis.Prev,L.arr .u8 32 x.P.Genesis.Root,L.int .i64 x.P.Genesis.Time,L.int .i64 x.P.Genesis.Bits,L.int .i64 x.P.Genesis.Nonce,L.sl 68 x.Base,L.own true 68 x.Seen,L.own false 68 x.Twice,L.int .i64 x.Told,L.int .i64 x.Salt,L.int .i64 x.Period,L.int .i64 x.Offset,L.int .i64 x.Size,L.int .i64 x.Most,L.int .i64 x.Phase]
noncomputable def Zcg {α:Type} (l:List L) (k:ZbA→Option α):Option α:=match l with
  | [L.int .i64 x0,L.int .i64 x1,L.int .i64 x2,L.int .i64 x3,L.bool x4,L.sl 2 x5,L.sl 33 x6,L.arr .u64 4 x7,L.arr .u64 4 x8,L.int .i64 x9,L.arr .u8 32 x10,L.arr .u8 32 x11,L.int .i64 x12,L.int .i64 x13,L.int .i64 x14,L.sl 68 x15,L.own true 68 x16,L.own false 68 x17,L.int .i64 x18,L.int .i64 x19,L.int .i64 x20,L.int .i64 x21,L.int .i64 x22,L.int .i64 x23,L.int .i64 x24]=>k ⟨⟨x0,x1,x2,x3,x4,x5,x6,x7,x8,⟨x9,x10,x11,x12,x13,x14⟩⟩,x15,x16,x17,x18,x19,x20,x21,x22,x23,x24⟩
  | _=>none
theorem Zde {α:Type} {o:Option (List L)} {k:ZbA→Option α} {r:α} (h:getE o Zcg k=some r) : ∃x:ZbA,o=some x.lo∧k x=some r:=by
  obtain ⟨l,e,k1⟩:=Zac h;subst e;unfold Zcg at k1;split at k1
  · exact ⟨_,rfl,k1⟩
  · cases k1
@[simp] theorem Zdl {α:Type} (x:ZbA) (k:ZbA→Option α):Zcg x.lo k=k x:=rfl
noncomputable def ZfJ {α:Type} (l:List L) (k:(List Int)→Option α):Option α:=match l with
  | [L.arr .u64 4 x0]=>k x0
  | _=>none
theorem ZhX {α:Type} {o:Option (List L)} {k:(List Int)→Option α} {r:α} (h:getE o ZfJ k=some r) : ∃x0,o=some [L.arr .u64 4 x0]∧k x0=some r:=by
  obtain ⟨l,e,k1⟩:=Zac h;subst e;unfold ZfJ at k1;split at k1
  · exact ⟨_,rfl,k1⟩
  · cases k1
@[simp] theorem dec_u64x4_ls {α:Type} (x0:List Int) (k:(List Int)→Option α):ZfJ [L.arr .u64 4 x0] k=k x0:=rfl
noncomputable def Zbb {α:Type} (l:List L) (k:Int→Int→Int→Int→Bool→LL→LL→(List Int)→(List Int)→Int→(List Int)→(List Int)→Int→Int→Int→Int→Int→Int→Int→Int→(List Int)→LL→(List Int)→Int→Int→Int→Int→Int→(List Int)→LL→(List Int)→(Option Nat)→Int→Int→Int→LL→Option α):Option α:=match l with
  | (L.int .i64 x0::L.int .i64 x1::L.int .i64 x2::L.int .i64 x3::L.bool x4::L.sl 2 x5::L.sl 33 x6::L.arr .u64 4 x7::L.arr .u64 4 x8::L.int .i64 x9::L.arr .u8 32 x10::L.arr .u8 32 x11::L.int .i64 x12::L.int .i64 x13::L.int .i64 x14::L.int .i64 x15::L.int .i64 x16::L.int .i64 x17::L.int .i64 x18::L.int .i64 x19::L.arr .u8 32 x20::L.sl 1 x21::L.arr .u64 4 x22::L.int .i64 x23::L.int .i64 x24::L.int .i64 x25::L.int .i64 x26::L.int .i64 x27::L.arr .u8 32 x28::L.sl 1 x29::L.arr .u64 4 x30::L.ptr x31::L.int .i64 x32::L.int .i64 x33::L.int .i64 x34::L.own true 68 x35 :: [])=>k x0 x1 x2 x3 x4 x5 x6 x7 x8 x9 x10 x11 x12 x13 x14 x15 x16 x17 x18 x19 x20 x21 x22 x23 x24 x25 x26 x27 x28 x29 x30 x31 x32 x33 x34 x35
  | _=>none
theorem ZaX {α:Type} {o:Option (List L)} {k:Int→Int→Int→Int→Bool→LL→LL→(List Int)→(List Int)→Int→(List Int)→(List Int)→Int→Int→Int→Int→Int→Int→Int→Int→(List Int)→LL→(List Int)→Int→Int→Int→Int→Int→(List Int)→LL→(List Int)→(Option Nat)→Int→Int→Int→LL→Option α} {r:α} (h:getE o Zbb k=some r) : ∃x0 x1 x2 x3 x4 x5 x6 x7 x8 x9 x10 x11 x12 x13 x14 x15 x16 x17 x18 x19 x20 x21 x22 x23 x24 x25 x26 x27 x28 x29 x30 x31 x32 x33 x34 x35,o=some (L.int .i64 x0::L.int .i64 x1::L.int .i64 x2::L.int .i64 x3::L.bool x4::L.sl 2 x5::L.sl 33 x6::L.arr .u64 4 x7::L.arr .u64 4 x8::L.int .i64 x9::L.arr .u8 32 x10::L.arr .u8 32 x11::L.int .i64 x12::L.int .i64 x13::L.int .i64 x14::L.int .i64 x15::L.int .i64 x16::L.int .i64 x17::L.int .i64 x18::L.int .i64 x19::L.arr .u8 32 x20::L.sl 1 x21::L.arr .u64 4 x22::L.int .i64 x23::L.int .i64 x24::L.int .i64 x25::L.int .i64 x26::L.int .i64 x27::L.arr .u8 32 x28::L.sl 1 x29::L.arr .u64 4 x30::L.ptr x31::L.int .i64 x32::L.int .i64 x33::L.int .i64 x34::L.own true 68 x35 :: [])∧k x0 x1 x2 x3 x4 x5 x6 x7 x8 x9 x10 x11 x12 x13 x14 x15 x16 x17 x18 x19 x20 x21 x22 x23 x24 x25 x26 x27 x28 x29 x30 x31 x32 x33 x34 x35=some r:=by
  obtain ⟨l,e,k1⟩:=Zac h;subst e;unfold Zbb at k1;split at k1
  · exact ⟨_,_,_,_,_,_,_,_,_,_,_,_,_,_,_,_,_,_,_,_,_,_,_,_,_,_,_,_,_,_,_,_,_,_,_,_,rfl,k1⟩
  · cases k1
@[simp] theorem Zjj {α:Type} (x0:Int) (x1:Int) (x2:Int) (x3:Int) (x4:Bool) (x5:LL) (x6:LL) (x7:List Int) (x8:List Int) (x9:Int) (x10:List Int) (x11:List Int) (x12:Int) (x13:Int) (x14:Int) (x15:Int) (x16:Int) (x17:Int) (x18:Int) (x19:Int) (x20:List Int) (x21:LL) (x22:List Int) (x23:Int) (x24:Int) (x25:Int) (x26:Int) (x27:Int) (x28:List Int) (x29:LL) (x30:List Int) (x31:Option Nat) (x32:Int) (x33:Int) (x34:Int) (x35:LL) (k:Int→Int→Int→Int→Bool→LL→LL→(List Int)→(List Int)→Int→(List Int)→(List Int)→Int→Int→Int→Int→Int→Int→Int→Int→(List Int)→LL→(List Int)→Int→Int→Int→Int→Int→(List Int)→LL→(List Int)→(Option Nat)→Int→Int→Int→LL→Option α):Zbb (L.int .i64 x0::L.int .i64 x1::L.int .i64 x2::L.int .i64 x3::L.bool x4::L.sl 2 x5::L.sl 33 x6::L.arr .u64 4 x7::L.arr .u64 4 x8::L.int .i64 x9::L.arr .u8 32 x10::L.arr .u8 32 x11::L.int .i64 x12::L.int .i64 x13::L.int .i64 x14::L.int .i64 x15::L.int .i64 x16::L.int .i64 x17::L.int .i64 x18::L.int .i64 x19::L.arr .u8 32 x20::L.sl 1 x21::L.arr .u64 4 x22::L.int .i64 x23::L.int .i64 x24::L.int .i64 x25::L.int .i64 x26::L.int .i64 x27::L.arr .u8 32 x28::L.sl 1 x29::L.arr .u64 4 x30::L.ptr x31::L.int .i64 x32::L.int .i64 x33::L.int .i64 x34::L.own true 68 x35 :: []) k=k x0 x1 x2 x3 x4 x5 x6 x7 x8 x9 x10 x11 x12 x13 x14 x15 x16 x17 x18 x19 x20 x21 x22 x23 x24 x25 x26 x27 x28 x29 x30 x31 x32 x33 x34 x35:=rfl
noncomputable def Zfr {α:Type} (l:List L) (k:Int→Option α):Option α:=match l with
  | [L.int .u64 x0]=>k x0
  | _=>none
theorem Zfq {α:Type} {o:Option (List L)} {k:Int→Option α} {r:α} (h:getE o Zfr k=some r) : ∃x0,o=some [L.int .u64 x0]∧k x0=some r:=by
  obtain ⟨l,e,k1⟩:=Zac h;subst e;unfold Zfr at k1;split at k1
  · exact ⟨_,rfl,k1⟩
  · cases k1
@[simp] theorem Zhz {α:Type} (x0:Int) (k:Int→Option α):Zfr [L.int .u64 x0] k=k x0:=rfl
theorem slices_Sort_int.snd:SortC Tryz.prog 195:=slices_Sort_int.holds
theorem ZcI.snd {x y z:Int} {r:Int×Int} (h:ZcI N x y z=some r):ExtI Tryz.prog 205 [(.u64,x),(.u64,y),(.u64,z)] [(.u64,r.1),(.u64,r.2)]:=Zhi Tryz.func205 (by kernel_rfl) (by kernel_rfl) (by kernel_rfl) (by kernel_rfl) h
theorem Zdz.snd {x y z:Int} {r:Int×Int} (h:Zdz N x y z=some r):ExtI Tryz.prog 223 [(.u64,x),(.u64,y),(.u64,z)] [(.u64,r.1),(.u64,r.2)]:=Zhh Tryz.func223 (by kernel_rfl) (by kernel_rfl) (by kernel_rfl) (by kernel_rfl) h
noncomputable def Zce.B:Code:=Tryz.f68.body.getD .skip
noncomputable def Zce.rs (r:Bool):List CV:=[oB r]
noncomputable def Zce (N:Nat) (p_0:Zbr):Option Bool:=
 if (decide (p_0.Period≥1))=true then
  if (decide (p_0.Period≤64))=true then
   if (decide (p_0.Offset≥0))=true then
    some (decide (p_0.Offset<p_0.Period))
   else
   some false
  else
  some false
 else
 some false
theorem Zce.snd {p_0:Zbr} {r:Bool} (h:Zce N p_0=some r):SndQ Tryz.prog 68 [.agg p_0.ls] (Zce.rs r):=fun st=>
 sO Zce.B Tryz.func68 fun g0 w0 R hE=>by
  unfold Zce at h
  refine iteB h (fun c1 h1=>?_) (fun c1 h2=>?_)
  ·refine iteB h1 (fun c2 h3=>?_) (fun c2 h4=>?_)
   ·refine iteB h3 (fun c3 h5=>?_) (fun c3 h6=>?_)
    ·obtain rfl:=Zaa h5
     exact af fol hE [.r [],.r []] [] 0 [] (aO c1 c1 c1 c1 c2 c2 c2 (aN c2 c3 c3 c3 c3 c3 c3))
    ·obtain rfl:=Zaa h6
     exact af fol hE [.r [],.r [(14,wF),(15,wF),(16,wF),(17,wF),(18,wF),(19,yF)]] [] 0 [] (aO c1 c1 c1 c1 c2 c2 c2 (aN c2 c3 c3 c3 c3 c3 c3))
   ·obtain rfl:=Zaa h4
    exact af fol hE [.r [],.r [(9,wF),(10,wF),(11,wF),(12,yF),(14,wF),(15,wF),(16,wF),(17,wF),(18,wF),(19,yF)]] [] 0 [] (aO c1 c1 c1 c1 c2 c2 c2 (aN c2 eF eF eF eF eF eF))
  ·obtain rfl:=Zaa h2
   exact af fol hE [.r [],.r [(4,wF),(5,wF),(6,wF),(7,yF),(9,wF),(10,wF),(11,wF),(12,yF),(14,wF),(15,wF),(16,wF),(17,wF),(18,wF),(19,yF)]] [] 0 [] (aO c1 c1 c1 c1 eF eF eF (aN eF eF eF eF eF eF eF))
noncomputable def Zdh.B:Code:=Tryz.f161.body.getD .skip
noncomputable def Zdh.rs (r:(Option Nat)×Int×LL):List CV:=[.one (L.ptr r.1),oI r.2.1]
noncomputable def Zdh (N:Nat) (p_0:Zbr) (st:LL):Option ((Option Nat)×Int×LL):=
 optE (Zce N p_0) fun x1=>
 if (!x1)=true then
  some (none,1,st)
 else
 some ((some (List.length st)),0,st ++ [Zat.lo (Zat.mk p_0 [] 0 0)])
theorem Zdh.snd {p_0:Zbr} {st:LL} {r:(Option Nat)×Int×LL} (h:Zdh N p_0 st=some r):Snd Tryz.prog 161 [.agg p_0.ls] st (Zdh.rs r) r.2.2:=
 sO Zdh.B Tryz.func161 fun g0 w0 R hE=>by
  unfold Zdh at h
  obtain ⟨x1,c1,h1⟩:=Zac h
  let o1:List PS:=[.r [],.r [(1,q1 [oB x1])]]
  refine iteB h1 (fun c2 h2=>?_) (fun c2 h3=>?_)
  ·obtain rfl:=Zaa h2
   exact af fol hE (o1 ++ [.c true,.r []]) [] 0 [] (aI (Zce.snd c1) c2)
  ·obtain rfl:=Zaa h3
   exact af fol hE (o1 ++ [.c false,.r [(1,{ns:=[3]}),(2,{m:=1})]]) [] 0 [] (aI (Zce.snd c1) c2)
noncomputable def Zco.B:Code:=Tryz.f176.body.getD .skip
noncomputable def Zco.rs (r:(List Int)):List CV:=[.agg [L.arr .u64 4 r]]
noncomputable def Zco (N:Nat) (n_0:Int):Option (List Int):=
 some [n_0,0,0,0]
theorem Zco.snd {n_0:Int} {r:(List Int)} (h:Zco N n_0=some r):SndQ Tryz.prog 176 [.one (L.int .u64 n_0)] (Zco.rs r):=fun st=>
 sO Zco.B Tryz.func176 fun g0 w0 R hE=>by
  unfold Zco at h
  obtain rfl:=Zaa h
  exact af fol hE [.r [],.r [(1,{m:=3})]] [] 0 [] trivial
noncomputable def ZaP.B:Code:=Tryz.f177.body.getD .skip
noncomputable def ZaP.rs (r:(List Int)):List CV:=[.agg [L.arr .u64 4 r]]
noncomputable def ZaP.p2 (N:Nat) (c1_:(Int×(List Int))→Option (List Int)) (n_1 v1:Int) (a_0_0 out_4:List Int):Option (List Int):=
 c1_ (w64 (v1+1),out_4)
noncomputable def ZaP.p1 (N:Nat) (n_1:Int) (a_0_0:List Int) (c1_:(Int×(List Int))→Option (List Int)):(Int×(List Int))→Option (List Int):=fun (v1,out_3)=>
 if (decide (v1<(w64 (4-(w64 (Int.tdiv (if (0:Int)>n_1 then 0 else n_1) 64))))))=true then
  chk (0≤(w64 (v1+(w64 (Int.tdiv (if (0:Int)>n_1 then 0 else n_1) 64)))))<|
  chk ((w64 (v1+(w64 (Int.tdiv (if (0:Int)>n_1 then 0 else n_1) 64))))<4)<|
  chk (0≤(Int.tmod (if (0:Int)>n_1 then 0 else n_1) 64))<|
  chk (0≤v1)<|
  chk (v1<4)<|
  if (decide ((w64 ((w64 (v1+(w64 (Int.tdiv (if (0:Int)>n_1 then 0 else n_1) 64))))+1))<4))=true then
   chk (0≤(w64 ((w64 (v1+(w64 (Int.tdiv (if (0:Int)>n_1 then 0 else n_1) 64))))+1)))<|
   chk (0≤(w64 (64-(Int.tmod (if (0:Int)>n_1 then 0 else n_1) 64))))<|
   ZaP.p2 N c1_ n_1 v1 a_0_0 (List.set (List.set out_3 (Int.toNat v1) (shrOf .u64 (List.getD a_0_0 (Int.toNat (w64 (v1+(w64 (Int.tdiv (if (0:Int)>n_1 then 0 else n_1) 64))))) 0) (Int.tmod (if (0:Int)>n_1 then 0 else n_1) 64))) (Int.toNat v1) (bitsOf .or .u64 (List.getD (List.set out_3 (Int.toNat v1) (shrOf .u64 (List.getD a_0_0 (Int.toNat (w64 (v1+(w64 (Int.tdiv (if (0:Int)>n_1 then 0 else n_1) 64))))) 0) (Int.tmod (if (0:Int)>n_1 then 0 else n_1) 64))) (Int.toNat v1) 0) (shlOf .u64 (List.getD a_0_0 (Int.toNat (w64 ((w64 (v1+(w64 (Int.tdiv (if (0:Int)>n_1 then 0 else n_1) 64))))+1))) 0) (w64 (64-(Int.tmod (if (0:Int)>n_1 then 0 else n_1) 64))))))
  else
  ZaP.p2 N c1_ n_1 v1 a_0_0 (List.set out_3 (Int.toNat v1) (shrOf .u64 (List.getD a_0_0 (Int.toNat (w64 (v1+(w64 (Int.tdiv (if (0:Int)>n_1 then 0 else n_1) 64))))) 0) (Int.tmod (if (0:Int)>n_1 then 0 else n_1) 64)))
 else
 some out_3
noncomputable def ZaP (N:Nat) (a_0_0:List Int) (n_1:Int):Option (List Int):=
 if (decide (n_1≥256))=true then
  some (List.replicate 4 0)
 else
 loopN (ZaP.p1 N n_1 a_0_0) N (0,List.replicate 4 0)
noncomputable def ZaP.p2.S (n_1 v1:Int) (a_0_0 out_4:List Int) (st:LL):S:=mkS 53 [(2,sA 2),(4,sA 4),(5,sA 5),(6,sI (w64 (Int.tdiv (if (0:Int)>n_1 then 0 else n_1) 64))),(7,sI (Int.tmod (if (0:Int)>n_1 then 0 else n_1) 64)),(19,sI (w64 (4-(w64 (Int.tdiv (if (0:Int)>n_1 then 0 else n_1) 64))))),(20,sI v1)] [(2,.cells [L.arr .u64 4 a_0_0]),(4,.cells [L.arr .u64 4 (List.replicate 4 0)]),(5,.cells [L.arr .u64 4 out_4])] st
noncomputable def ZaP.p1.S (n_1 v1:Int) (a_0_0 out_3:List Int) (st:LL):S:=mkS 53 [(2,sA 2),(4,sA 4),(5,sA 5),(6,sI (w64 (Int.tdiv (if (0:Int)>n_1 then 0 else n_1) 64))),(7,sI (Int.tmod (if (0:Int)>n_1 then 0 else n_1) 64)),(19,sI (w64 (4-(w64 (Int.tdiv (if (0:Int)>n_1 then 0 else n_1) 64))))),(20,sI v1)] [(2,.cells [L.arr .u64 4 a_0_0]),(4,.cells [L.arr .u64 4 (List.replicate 4 0)]),(5,.cells [L.arr .u64 4 out_3])] st
theorem ZaP.p2_ok {n_1 v1 a_0_0 out_4 st r c1_ J1} (h:ZaP.p2 N c1_ n_1 v1 a_0_0 out_4=some r) (hE:En Tryz.f177 g0 w0 (ZaP.rs r) st R) (hc1 : ∀v1 out_3,c1_ (v1,out_3)=some r→At g0 w0 (ZaP.p1.S n_1 v1 a_0_0 out_3 st) J1):At g0 w0 (ZaP.p2.S n_1 v1 a_0_0 out_4 st) (XK Tryz.prog R [.c (csub ZaP.B [1,1,1,1,0,1,0,0,1,1,1]),.h J1,.b 0,.c (csub ZaP.B [1,1,1,1,1])]):=by
 unfold ZaP.p2 at h
 exact an fol [.r []] [2,4,5,6,7,19,20] [2,4,5] trivial (hc1 (w64 (v1+1)) out_4 h)
theorem ZaP.p1_ok {n_1 v1 a_0_0 out_3 st r c1_ J1} (h:ZaP.p1 N n_1 a_0_0 c1_ (v1,out_3)=some r) (hE:En Tryz.f177 g0 w0 (ZaP.rs r) st R) (hc1 : ∀v1 out_3,c1_ (v1,out_3)=some r→At g0 w0 (ZaP.p1.S n_1 v1 a_0_0 out_3 st) J1):At g0 w0 (ZaP.p1.S n_1 v1 a_0_0 out_3 st) (XK Tryz.prog R (.c (csub ZaP.B [1,1,1,1,0,1,0,0]) :: .h J1 :: [.b 0,.c (csub ZaP.B [1,1,1,1,1])])):=by
 unfold ZaP.p1 at h
 refine iteB h (fun c11 h1=>?_) (fun c11 h2=>?_)
 ·obtain ⟨c12,c13,c14,c15,c16,h3⟩:=ck5 h1
  let o1:List PS:=[.r [],.c true,.r [],.r [],.r []]
  refine iteB h3 (fun c17 h4=>?_) (fun c17 h5=>?_)
  ·obtain ⟨c18,c19,h6⟩:=ck2 h4
   exact aqd fol (o1 ++ [.c true,.d {ds:=[],hv:=16384,Hs:=[16384]},.s 4]) [2,4,5,6,7,19,20] [2,4,5] (aO c11 c12 c13 c14 c15 c16 c17 (aN c15 c16 c18 (oD c17) c19 c15 c16)) (ZaP.p2_ok h6 hE hc1)
  ·exact aq fol (o1 ++ [.c false,.s 4]) [2,4,5,6,7,19,20] [2,4,5] (aN c11 c12 c13 c14 c15 c16 c17) (ZaP.p2_ok h5 hE hc1)
 ·obtain rfl:=Zaa h2
  exact af fol hE [.r [],.c false,.r []] [] 0 [] c11
theorem ZaP.snd {a_0_0:List Int} {n_1:Int} {r:(List Int)} (h:ZaP N a_0_0 n_1=some r):SndQ Tryz.prog 177 [.agg [L.arr .u64 4 a_0_0],oI n_1] (ZaP.rs r):=fun st=>
 sO ZaP.B Tryz.func177 fun g0 w0 R hE=>by
  unfold ZaP at h
  refine iteB h (fun c1 h7=>?_) (fun c1 h8=>?_)
  ·obtain rfl:=Zaa h7
   exact af fol hE [.r [],.r [],.c true,.r []] [] 0 [] c1
  ·exact aq fol [.r [],.r [],.c false,.r [],.r [],.r []] [2,4,5,6,7,19,20] [2,4,5] (aJ c1 (neI 64) (neI 64)) (At.loop N (At.loopN (fun y:Int×(List Int)=>ZaP.p1.S n_1 y.1 a_0_0 y.2 st) (fun c J hc y h=>ZaP.p1_ok (v1:=y.1) (out_3:=y.2) h hE (fun v1 out_3=>hc (v1,out_3))) N (0,List.replicate 4 0) h8))
noncomputable def Zbh.B:Code:=Tryz.f178.body.getD .skip
noncomputable def Zbh.rs (r:(List Int)):List CV:=[.agg [L.arr .u64 4 r]]
noncomputable def Zbh.p2 (N:Nat) (c1_:(Int×(List Int))→Option (List Int)) (n_1 i_1:Int) (a_0_0 out_4:List Int):Option (List Int):=
 c1_ (w64 (i_1+1),out_4)
noncomputable def Zbh.p1 (N:Nat) (n_1:Int) (a_0_0:List Int) (c1_:(Int×(List Int))→Option (List Int)):(Int×(List Int))→Option (List Int):=fun (i_1,out_3)=>
 if (decide (i_1<4))=true then
  chk (0≤(w64 (i_1-(w64 (Int.tdiv (if (0:Int)>n_1 then 0 else n_1) 64)))))<|
  chk ((w64 (i_1-(w64 (Int.tdiv (if (0:Int)>n_1 then 0 else n_1) 64))))<4)<|
  chk (0≤(Int.tmod (if (0:Int)>n_1 then 0 else n_1) 64))<|
  chk (0≤i_1)<|
  if (decide (i_1>(w64 (Int.tdiv (if (0:Int)>n_1 then 0 else n_1) 64))))=true then
   chk (0≤(w64 ((w64 (i_1-(w64 (Int.tdiv (if (0:Int)>n_1 then 0 else n_1) 64))))-1)))<|
   chk ((w64 ((w64 (i_1-(w64 (Int.tdiv (if (0:Int)>n_1 then 0 else n_1) 64))))-1))<4)<|
   chk (0≤(w64 (64-(Int.tmod (if (0:Int)>n_1 then 0 else n_1) 64))))<|
   Zbh.p2 N c1_ n_1 i_1 a_0_0 (List.set (List.set out_3 (Int.toNat i_1) (shlOf .u64 (List.getD a_0_0 (Int.toNat (w64 (i_1-(w64 (Int.tdiv (if (0:Int)>n_1 then 0 else n_1) 64))))) 0) (Int.tmod (if (0:Int)>n_1 then 0 else n_1) 64))) (Int.toNat i_1) (bitsOf .or .u64 (List.getD (List.set out_3 (Int.toNat i_1) (shlOf .u64 (List.getD a_0_0 (Int.toNat (w64 (i_1-(w64 (Int.tdiv (if (0:Int)>n_1 then 0 else n_1) 64))))) 0) (Int.tmod (if (0:Int)>n_1 then 0 else n_1) 64))) (Int.toNat i_1) 0) (shrOf .u64 (List.getD a_0_0 (Int.toNat (w64 ((w64 (i_1-(w64 (Int.tdiv (if (0:Int)>n_1 then 0 else n_1) 64))))-1))) 0) (w64 (64-(Int.tmod (if (0:Int)>n_1 then 0 else n_1) 64))))))
  else
  Zbh.p2 N c1_ n_1 i_1 a_0_0 (List.set out_3 (Int.toNat i_1) (shlOf .u64 (List.getD a_0_0 (Int.toNat (w64 (i_1-(w64 (Int.tdiv (if (0:Int)>n_1 then 0 else n_1) 64))))) 0) (Int.tmod (if (0:Int)>n_1 then 0 else n_1) 64)))
 else
 some out_3
noncomputable def Zbh (N:Nat) (a_0_0:List Int) (n_1:Int):Option (List Int):=
 if (decide (n_1≥256))=true then
  some (List.replicate 4 0)
 else
 loopN (Zbh.p1 N n_1 a_0_0) N (w64 (Int.tdiv (if (0:Int)>n_1 then 0 else n_1) 64),List.replicate 4 0)
noncomputable def Zbh.p2.S (n_1 i_1:Int) (a_0_0 out_4:List Int) (st:LL):S:=mkS 50 [(2,sA 2),(4,sA 4),(5,sA 5),(6,sI (w64 (Int.tdiv (if (0:Int)>n_1 then 0 else n_1) 64))),(7,sI (Int.tmod (if (0:Int)>n_1 then 0 else n_1) 64)),(8,sI i_1)] [(2,.cells [L.arr .u64 4 a_0_0]),(4,.cells [L.arr .u64 4 (List.replicate 4 0)]),(5,.cells [L.arr .u64 4 out_4])] st
noncomputable def Zbh.p1.S (n_1 i_1:Int) (a_0_0 out_3:List Int) (st:LL):S:=mkS 50 [(2,sA 2),(4,sA 4),(5,sA 5),(6,sI (w64 (Int.tdiv (if (0:Int)>n_1 then 0 else n_1) 64))),(7,sI (Int.tmod (if (0:Int)>n_1 then 0 else n_1) 64)),(8,sI i_1)] [(2,.cells [L.arr .u64 4 a_0_0]),(4,.cells [L.arr .u64 4 (List.replicate 4 0)]),(5,.cells [L.arr .u64 4 out_3])] st
theorem Zbh.p2_ok {n_1 i_1 a_0_0 out_4 st r c1_ J1} (h:Zbh.p2 N c1_ n_1 i_1 a_0_0 out_4=some r) (hE:En Tryz.f178 g0 w0 (Zbh.rs r) st R) (hc1 : ∀i_1 out_3,c1_ (i_1,out_3)=some r→At g0 w0 (Zbh.p1.S n_1 i_1 a_0_0 out_3 st) J1):At g0 w0 (Zbh.p2.S n_1 i_1 a_0_0 out_4 st) (XK Tryz.prog R [.c (csub Zbh.B [1,1,1,1,0,1,0,0,1,1]),.h J1,.b 0,.c (csub Zbh.B [1,1,1,1,1])]):=by
 unfold Zbh.p2 at h
 exact an fol [.r []] [2,4,5,6,7,8] [2,4,5] trivial (hc1 (w64 (i_1+1)) out_4 h)
theorem Zbh.p1_ok {n_1 i_1 a_0_0 out_3 st r c1_ J1} (h:Zbh.p1 N n_1 a_0_0 c1_ (i_1,out_3)=some r) (hE:En Tryz.f178 g0 w0 (Zbh.rs r) st R) (hc1 : ∀i_1 out_3,c1_ (i_1,out_3)=some r→At g0 w0 (Zbh.p1.S n_1 i_1 a_0_0 out_3 st) J1):At g0 w0 (Zbh.p1.S n_1 i_1 a_0_0 out_3 st) (XK Tryz.prog R (.c (csub Zbh.B [1,1,1,1,0,1,0,0]) :: .h J1 :: [.b 0,.c (csub Zbh.B [1,1,1,1,1])])):=by
 unfold Zbh.p1 at h
 refine iteB h (fun c11 h1=>?_) (fun c11 h2=>?_)
 ·obtain ⟨c12,c13,c14,c15,h3⟩:=ck4 h1
  refine iteB h3 (fun c16 h4=>?_) (fun c16 h5=>?_)
  ·obtain ⟨c17,c18,c19,h6⟩:=ck3 h4
   exact aqd fol [.r [],.c true,.r [],.r [],.c true,.d {ds:=[],hv:=16384,Hs:=[16384]},.s 4] [2,4,5,6,7,8] [2,4,5] (aO c11 c12 c13 c14 c15 (oD c11) c16 (aN c15 (oD c11) c17 c18 c19 c15 (oD c11))) (Zbh.p2_ok h6 hE hc1)
  ·exact aq fol [.r [],.c true,.r [],.r [],.c false,.s 4] [2,4,5,6,7,8] [2,4,5] (aN c11 c12 c13 c14 c15 (oD c11) c16) (Zbh.p2_ok h5 hE hc1)
 ·obtain rfl:=Zaa h2
  exact af fol hE [.r [],.c false,.r []] [] 0 [] c11
theorem Zbh.snd {a_0_0:List Int} {n_1:Int} {r:(List Int)} (h:Zbh N a_0_0 n_1=some r):SndQ Tryz.prog 178 [.agg [L.arr .u64 4 a_0_0],oI n_1] (Zbh.rs r):=fun st=>
 sO Zbh.B Tryz.func178 fun g0 w0 R hE=>by
  unfold Zbh at h
  refine iteB h (fun c1 h7=>?_) (fun c1 h8=>?_)
  ·obtain rfl:=Zaa h7
   exact af fol hE [.r [],.r [],.c true,.r []] [] 0 [] c1
  ·exact aq fol [.r [],.r [],.c false,.r [],.r [],.r []] [2,4,5,6,7,8] [2,4,5] (aJ c1 (neI 64) (neI 64)) (At.loop N (At.loopN (fun y:Int×(List Int)=>Zbh.p1.S n_1 y.1 a_0_0 y.2 st) (fun c J hc y h=>Zbh.p1_ok (i_1:=y.1) (out_3:=y.2) h hE (fun i_1 out_3=>hc (i_1,out_3))) N (w64 (Int.tdiv (if (0:Int)>n_1 then 0 else n_1) 64),List.replicate 4 0) h8))
noncomputable def Zav.B:Code:=Tryz.f116.body.getD .skip
noncomputable def Zav.rs (r:(List Int)×Bool×Bool):List CV:=[.agg [L.arr .u64 4 r.1],oB r.2.1,oB r.2.2]
noncomputable def Zav.p2 (N:Nat) (bits_0:Int) (below_6:Bool) (n_5:List Int):Option ((List Int)×Bool×Bool):=
 if ((bitsOf .and .i64 bits_0 8388607) != 0)=true then
  if (decide ((shrOf .i64 bits_0 24)>34))=true then
   some (n_5,below_6,true)
  else
  if (decide ((bitsOf .and .i64 bits_0 8388607)>255))=true then
   if (decide ((shrOf .i64 bits_0 24)>33))=true then
    some (n_5,below_6,true)
   else
   if (decide ((bitsOf .and .i64 bits_0 8388607)>65535))=true then
    some (n_5,below_6,decide ((shrOf .i64 bits_0 24)>32))
   else
   some (n_5,below_6,false)
  else
  if (decide ((bitsOf .and .i64 bits_0 8388607)>65535))=true then
   some (n_5,below_6,decide ((shrOf .i64 bits_0 24)>32))
  else
  some (n_5,below_6,false)
 else
 some (n_5,below_6,false)
noncomputable def Zav.p1 (N:Nat) (bits_0:Int) (n_5:List Int):Option ((List Int)×Bool×Bool):=
 if ((bitsOf .and .i64 bits_0 8388607) != 0)=true then
  Zav.p2 N bits_0 ((bitsOf .and .i64 bits_0 8388608) != 0) n_5
 else
 Zav.p2 N bits_0 false n_5
noncomputable def Zav (N:Nat) (bits_0:Int):Option ((List Int)×Bool×Bool):=
 optE (Zcn N bits_0) fun x1=>
 if (!x1)=true then
  some (List.replicate 4 0,false,false)
 else
 optE (Zco N (v64 (bitsOf .and .i64 bits_0 8388607))) fun x2=>
 if (decide ((shrOf .i64 bits_0 24)≤3))=true then
  optE (ZaP N x2 (w64 (8*(w64 (3-(shrOf .i64 bits_0 24)))))) fun x3=>
  Zav.p1 N bits_0 x3
 else
 optE (Zbh N x2 (w64 (8*(w64 ((shrOf .i64 bits_0 24)-3))))) fun x4=>
 Zav.p1 N bits_0 x4
noncomputable def Zav.p2.S (bits_0:Int) (below_6:Bool) (n_5:List Int) (st:LL):S:=mkS 65 [(2,sA 2),(5,sI (shrOf .i64 bits_0 24)),(6,sI (bitsOf .and .i64 bits_0 8388607)),(7,sA 7),(8,.one (.l (L.bool below_6)))] [(2,.cells [L.arr .u64 4 (List.replicate 4 0)]),(7,.cells [L.arr .u64 4 n_5])] st
noncomputable def Zav.p1.S (bits_0:Int) (n_5:List Int) (st:LL):S:=mkS 65 [(0,sI bits_0),(2,sA 2),(5,sI (shrOf .i64 bits_0 24)),(6,sI (bitsOf .and .i64 bits_0 8388607)),(7,sA 7)] [(2,.cells [L.arr .u64 4 (List.replicate 4 0)]),(7,.cells [L.arr .u64 4 n_5])] st
theorem Zav.p2_ok {bits_0 below_6 n_5 st r} (h:Zav.p2 N bits_0 below_6 n_5=some r) (hE:En Tryz.f116 g0 w0 (Zav.rs r) st R):At g0 w0 (Zav.p2.S bits_0 below_6 n_5 st) (XK Tryz.prog R [.c (csub Zav.B [1,1,1,1,1,1])]):=by
 unfold Zav.p2 at h
 refine iteB h (fun c8 h1=>?_) (fun c8 h2=>?_)
 ·have t1 {Q:Prop} (q:Q):=aK c8 c8 c8 q
  refine iteB h1 (fun c9 h3=>?_) (fun c9 h4=>?_)
  ·obtain rfl:=Zaa h3
   exact af fol hE [.r [(6,wF),(7,wF),(8,wF),(11,wF),(14,wF),(15,wF),(16,wF),(19,wF)],.r []] [] 0 [] (t1 (aO c9 c9 c9 c9 c8 c9 c8 (aN eT eT eT eT c8 eT c8)))
  ·have t2 {Q:Prop} (q:Q):=t1 (aK c9 c9 c9 q)
   refine iteB h4 (fun c10 h5=>?_) (fun c10 h6=>?_)
   ·have t3 {Q:Prop} (q:Q):=t2 (aO c10 c10 c9 c10 c8 c9 c8 q)
    refine iteB h5 (fun c11 h7=>?_) (fun c11 h8=>?_)
    ·obtain rfl:=Zaa h7
     exact af fol hE [.r [(12,yF),(14,wF),(15,wF),(16,wF),(19,wF)],.r []] [] 0 [] (t3 (aN c11 c11 c11 c11 c8 c11 c8))
    ·refine iteB h8 (fun c12 h9=>?_) (fun c12 h10=>?_)
     ·obtain rfl:=Zaa h9
      exact af fol hE [.r [(12,yF),(20,yF)],.r []] [] 0 [] (t3 (aO c11 c11 c11 c12 c12 c11 c12 (aJ c8 c11 c8)))
     ·obtain rfl:=Zaa h10
      exact af fol hE [.r [(12,yF),(17,wF),(18,wF),(19,yF),(20,yF)],.r []] [] 0 [] (t3 (aO c11 c11 c11 c12 c12 c11 c12 (aJ c8 c11 c8)))
   ·have t4 {Q:Prop} (q:Q):=t2 (aO c10 c10 c9 c10 c8 c9 c8 (aK eF eF eF q))
    refine iteB h6 (fun c13 h11=>?_) (fun c13 h12=>?_)
    ·obtain rfl:=Zaa h11
     exact af fol hE [.r [(9,wF),(10,wF),(11,yF),(12,yF),(20,yF)],.r []] [] 0 [] (t4 (aN c13 c13 eF c13 c8 eF c8))
    ·obtain rfl:=Zaa h12
     exact af fol hE [.r [(9,wF),(10,wF),(11,yF),(12,yF),(17,wF),(18,wF),(19,yF),(20,yF)],.r []] [] 0 [] (t4 (aN c13 c13 eF c13 c8 eF c8))
 ·obtain rfl:=Zaa h2
  exact af fol hE [.r [(3,wF),(4,wF),(5,wF),(12,wF),(13,wF),(20,wF),(21,yF)],.r []] [] 0 [] (aN c8 c8 c8 c8 c8 c8 c8)
theorem Zav.p1_ok {bits_0 n_5 st r} (h:Zav.p1 N bits_0 n_5=some r) (hE:En Tryz.f116 g0 w0 (Zav.rs r) st R):At g0 w0 (Zav.p1.S bits_0 n_5 st) (XK Tryz.prog R [.c (csub Zav.B [1,1,1,1,1])]):=by
 unfold Zav.p1 at h
 refine iteB h (fun c7 h13=>?_) (fun c7 h14=>?_)
 ·exact aq fol [.r [],.s 1] [2,5,6,7,8] [2,7] (aK c7 c7 c7 c7) (Zav.p2_ok h13 hE)
 ·exact aq fol [.r [(3,wF),(4,wF),(5,wF),(6,yF)],.s 1] [2,5,6,7,8] [2,7] (aK c7 c7 c7 c7) (Zav.p2_ok h14 hE)
theorem Zav.snd {bits_0:Int} {r:(List Int)×Bool×Bool} (h:Zav N bits_0=some r):SndQ Tryz.prog 116 [oI bits_0] (Zav.rs r):=fun st=>
 sO Zav.B Tryz.func116 fun g0 w0 R hE=>by
  unfold Zav at h
  obtain ⟨x1,c1,h15⟩:=Zac h
  let o1:List PS:=[.r [],.r [(1,q1 [oB x1])]]
  have t5 {Q:Prop} (q:Q):=aI (Zcn.snd c1) q
  refine iteB h15 (fun c2 h16=>?_) (fun c2 h17=>?_)
  ·obtain rfl:=Zaa h16
   exact af fol hE (o1 ++ [.c true,.r []]) [] 0 [] (t5 c2)
  ·obtain ⟨x2,c3,h18⟩:=Zac h17
   let o2:List PS:=o1 ++ [.c false,.r [],.r [(2,q1 [.agg [L.arr .u64 4 x2]])],.r []]
   refine iteB h18 (fun c4 h19=>?_) (fun c4 h20=>?_)
   ·obtain ⟨x3,c5,h21⟩:=Zac h19
    exact aq fol (o2 ++ [.c true,.r [(4,q1 [.agg [L.arr .u64 4 x3]])],.s 1]) [0,2,5,6,7] [2,7] (t5 (aL c2 (leI 0 24) (Zco.snd c3) c4 (ZaP.snd c5))) (Zav.p1_ok h21 hE)
   ·obtain ⟨x4,c6,h22⟩:=Zac h20
    exact aq fol (o2 ++ [.c false,.r [(4,q1 [.agg [L.arr .u64 4 x4]])],.s 1]) [0,2,5,6,7] [2,7] (t5 (aL c2 (leI 0 24) (Zco.snd c3) c4 (Zbh.snd c6))) (Zav.p1_ok h22 hE)
noncomputable def ZbY.B:Code:=Tryz.f117.body.getD .skip
noncomputable def ZbY.rs (r:Bool):List CV:=[oB r]
noncomputable def ZbY (N:Nat) (a_0_0:List Int):Option Bool:=
 some (a_0_0==(List.replicate 4 0))
theorem ZbY.snd {a_0_0:List Int} {r:Bool} (h:ZbY N a_0_0=some r):SndQ Tryz.prog 117 [.agg [L.arr .u64 4 a_0_0]] (ZbY.rs r):=fun st=>
 sO ZbY.B Tryz.func117 fun g0 w0 R hE=>by
  unfold ZbY at h
  obtain rfl:=Zaa h
  exact af fol hE [.r [],.r []] [] 0 [] trivial
noncomputable def ZaW.B:Code:=Tryz.f95.body.getD .skip
noncomputable def ZaW.rs (r:Int):List CV:=[oI r]
noncomputable def ZaW.p1 (N:Nat) (a_0_0 b_1_0:List Int) (c1_:Int→Option Int):Int→Option Int:=fun i_1=>
 if (decide (i_1≥0))=true then
  chk (0≤i_1)<|
  chk (i_1<4)<|
  if (decide ((List.getD a_0_0 (Int.toNat i_1) 0)<(List.getD b_1_0 (Int.toNat i_1) 0)))=true then
   some (-1)
  else
  if (decide ((List.getD a_0_0 (Int.toNat i_1) 0)>(List.getD b_1_0 (Int.toNat i_1) 0)))=true then
   some 1
  else
  c1_ (w64 (i_1-1))
 else
 some 0
noncomputable def ZaW (N:Nat) (a_0_0 b_1_0:List Int):Option Int:=
 loopN (ZaW.p1 N a_0_0 b_1_0) N 3
noncomputable def ZaW.p1.S (i_1:Int) (a_0_0 b_1_0:List Int) (st:LL):S:=mkS 26 [(2,sA 2),(3,sA 3),(5,sI i_1)] [(2,.cells [L.arr .u64 4 a_0_0]),(3,.cells [L.arr .u64 4 b_1_0])] st
theorem ZaW.p1_ok {i_1 a_0_0 b_1_0 st r c1_ J1} (h:ZaW.p1 N a_0_0 b_1_0 c1_ i_1=some r) (hE:En Tryz.f95 g0 w0 (ZaW.rs r) st R) (hc1 : ∀i_1,c1_ i_1=some r→At g0 w0 (ZaW.p1.S i_1 a_0_0 b_1_0 st) J1):At g0 w0 (ZaW.p1.S i_1 a_0_0 b_1_0 st) (XK Tryz.prog R (.c (csub ZaW.B [1,0,1,0,0]) :: .h J1 :: [.b 0,.c (csub ZaW.B [1,1])])):=by
 unfold ZaW.p1 at h
 refine iteB h (fun c1 h1=>?_) (fun c1 h2=>?_)
 ·obtain ⟨c2,c3,h3⟩:=ck2 h1
  let o1:List PS:=[.r [],.c true,.d {ds:=[],hv:=0,Hs:=[]}]
  refine iteB h3 (fun c4 h4=>?_) (fun c4 h5=>?_)
  ·obtain rfl:=Zaa h4
   exact afd fol hE (o1 ++ [.c true,.r []]) [] 0 [] (aM c1 c2 c3 c2 c3 c4)
  ·let o2:List PS:=o1 ++ [.c false,.d {ds:=[],hv:=0,Hs:=[]}]
   refine iteB h5 (fun c5 h6=>?_) (fun c5 h7=>?_)
   ·obtain rfl:=Zaa h6
    exact afd fol hE (o2 ++ [.c true,.r []]) [] 0 [] (aO c1 c2 c3 c2 c3 c4 c2 (aK c3 c2 c3 c5))
   ·exact and_ fol (o2 ++ [.c false,.r []]) [2,3,5] [2,3] (aO c1 c2 c3 c2 c3 c4 c2 (aK c3 c2 c3 c5)) (hc1 (w64 (i_1-1)) h7)
 ·obtain rfl:=Zaa h2
  exact af fol hE [.r [],.c false,.r []] [] 0 [] c1
theorem ZaW.snd {a_0_0 b_1_0:List Int} {r:Int} (h:ZaW N a_0_0 b_1_0=some r):SndQ Tryz.prog 95 [.agg [L.arr .u64 4 a_0_0],.agg [L.arr .u64 4 b_1_0]] (ZaW.rs r):=fun st=>
 sO ZaW.B Tryz.func95 fun g0 w0 R hE=>by
  unfold ZaW at h
  exact aq fol [.r [],.r []] [2,3,5] [2,3] trivial (At.loop N (At.loopN (fun y:Int=>ZaW.p1.S y a_0_0 b_1_0 st) (fun c J hc y h=>ZaW.p1_ok h hE (fun i_1=>hc i_1)) N 3 h))
noncomputable def ZbW.B:Code:=Tryz.f202.body.getD .skip
noncomputable def ZbW.rs (r:Bool):List CV:=[oB r]
noncomputable def ZbW (N:Nat) (a_0_0 b_1_0:List Int):Option Bool:=
 optE (ZaW N a_0_0 b_1_0) fun x1=>
 some (decide (x1<0))
theorem ZbW.snd {a_0_0 b_1_0:List Int} {r:Bool} (h:ZbW N a_0_0 b_1_0=some r):SndQ Tryz.prog 202 [.agg [L.arr .u64 4 a_0_0],.agg [L.arr .u64 4 b_1_0]] (ZbW.rs r):=fun st=>
 sO ZbW.B Tryz.func202 fun g0 w0 R hE=>by
  unfold ZbW at h
  obtain ⟨x1,c1,h1⟩:=Zac h
  obtain rfl:=Zaa h1
  exact af fol hE [.r [],.r [(2,q1 [oI x1])]] [] 0 [] (ZaW.snd c1)
noncomputable def ZbG.B:Code:=Tryz.f185.body.getD .skip
noncomputable def ZbG.rs (r:(List Int)×Bool):List CV:=[.agg [L.arr .u64 4 r.1],oB r.2]
noncomputable def ZbG (N:Nat) (bits_0 limit_1:Int):Option ((List Int)×Bool):=
 optE (Zav N bits_0) fun (x1,x2,x3)=>
 optE (Zav N limit_1) fun (x4,x5,x6)=>
 if x2=true then
  some (List.replicate 4 0,false)
 else
 if x3=true then
  some (List.replicate 4 0,false)
 else
 if x5=true then
  some (List.replicate 4 0,false)
 else
 if x6=true then
  some (List.replicate 4 0,false)
 else
 optE (ZbY N x1) fun x7=>
 if x7=true then
  some (List.replicate 4 0,false)
 else
 optE (ZbW N x4 x1) fun x8=>
 if x8=true then
  some (List.replicate 4 0,false)
 else
 some (x1,true)
theorem ZbG.snd {bits_0 limit_1:Int} {r:(List Int)×Bool} (h:ZbG N bits_0 limit_1=some r):SndQ Tryz.prog 185 [oI bits_0,oI limit_1] (ZbG.rs r):=fun st=>
 sO ZbG.B Tryz.func185 fun g0 w0 R hE=>by
  unfold ZbG at h
  obtain ⟨⟨x1,x2,x3⟩,c1,h1⟩:=Zac h
  obtain ⟨⟨x4,x5,x6⟩,c2,h2⟩:=Zac h1
  let o1:List PS:=[.r [],.r [(1,q1 [.agg [L.arr .u64 4 x1],oB x2,oB x3])],.r [(1,q1 [.agg [L.arr .u64 4 x4],oB x5,oB x6])]]
  have t1 {Q:Prop} (q:Q):=aJ (Zav.snd c1) (Zav.snd c2) q
  refine iteB h2 (fun c3 h3=>?_) (fun c3 h4=>?_)
  ·obtain rfl:=Zaa h3
   exact af fol hE (o1 ++ [.r [(2,wF),(5,wF),(8,wF),(11,wF),(12,wF),(15,wF),(16,wF),(17,wF)],.c true,.r []]) [] 0 [] (t1 (aO c3 c3 eT eT eT eT eT (aN eT eT eT eT eT eT eT)))
  ·refine iteB h4 (fun c4 h5=>?_) (fun c4 h6=>?_)
   ·obtain rfl:=Zaa h5
    exact af fol hE (o1 ++ [.r [(3,yF),(5,wF),(8,wF),(11,wF),(12,wF),(15,wF),(16,wF),(17,wF)],.c true,.r []]) [] 0 [] (t1 (aO c3 c3 c4 c4 eT eT eT (aN eT eT eT eT eT eT eT)))
   ·have t2 {Q:Prop} (q:Q):=t1 (aL c3 c3 c4 c4 q)
    refine iteB h6 (fun c5 h7=>?_) (fun c5 h8=>?_)
    ·obtain rfl:=Zaa h7
     exact af fol hE (o1 ++ [.r [(3,yF),(6,yF),(8,wF),(11,wF),(12,wF),(15,wF),(16,wF),(17,wF)],.c true,.r []]) [] 0 [] (t2 (aO c5 c5 eT eT eT eT eT (aJ eT eT eT)))
    ·refine iteB h8 (fun c6 h9=>?_) (fun c6 h10=>?_)
     ·obtain rfl:=Zaa h9
      exact af fol hE (o1 ++ [.r [(3,yF),(6,yF),(9,yF),(11,wF),(12,wF),(15,wF),(16,wF),(17,wF)],.c true,.r []]) [] 0 [] (t2 (aO c5 c5 c6 c6 c6 eT eT (aJ eT eT eT)))
     ·obtain ⟨x7,c7,h11⟩:=Zac h10
      have t3 {Q:Prop} (q:Q):=t2 (aN c5 c5 c6 c6 (ZbY.snd c7) c6 q)
      refine iteB h11 (fun c8 h12=>?_) (fun c8 h13=>?_)
      ·obtain rfl:=Zaa h12
       exact af fol hE (o1 ++ [.r [(3,yF),(6,yF),(9,yF),(12,q1 [oB x7]),(13,yF),(15,wF),(16,wF),(17,wF)],.c true,.r []]) [] 0 [] (t3 (aL c8 c8 c8 c8 eT))
      ·obtain ⟨x8,c9,h14⟩:=Zac h13
       let o2:List PS:=o1 ++ [.r [(3,yF),(6,yF),(9,yF),(12,q1 [oB x7]),(13,yF),(17,q1 [oB x8]),(18,yF)]]
       refine iteB h14 (fun c10 h15=>?_) (fun c10 h16=>?_)
       ·obtain rfl:=Zaa h15
        exact af fol hE (o2 ++ [.c true,.r []]) [] 0 [] (t3 (aM c8 c8 c8 (ZbW.snd c9) c8 c10))
       ·obtain rfl:=Zaa h16
        exact af fol hE (o2 ++ [.c false,.r []]) [] 0 [] (t3 (aM c8 c8 c8 (ZbW.snd c9) c8 c10))
noncomputable def ZcV.B:Code:=Tryz.f145.body.getD .skip
noncomputable def ZcV.rs (r:Bool):List CV:=[oB r]
noncomputable def ZcV (N:Nat) (p_0:Zan):Option Bool:=
 optE (ZbG N p_0.Limit p_0.Limit) fun (x1,x2)=>
 if x2=true then
  if (decide (p_0.Interval≥2))=true then
   if (decide (p_0.Interval≤64))=true then
    if (decide (p_0.Spacing≥1))=true then
     if (decide (p_0.Spacing≤10000))=true then
      if (decide (p_0.Future≥0))=true then
       some (decide (p_0.Future<4294967296))
      else
      some false
     else
     some false
    else
    some false
   else
   some false
  else
  some false
 else
 some false
theorem ZcV.snd {p_0:Zan} {r:Bool} (h:ZcV N p_0=some r):SndQ Tryz.prog 145 [.agg p_0.ls] (ZcV.rs r):=fun st=>
 sO ZcV.B Tryz.func145 fun g0 w0 R hE=>by
  unfold ZcV at h
  obtain ⟨⟨x1,x2⟩,c1,h1⟩:=Zac h
  let o1:List PS:=[.r [],.r [(4,q1 [.agg [L.arr .u64 4 x1],oB x2])]]
  have t1 {Q:Prop} (q:Q):=aI (ZbG.snd c1) q
  refine iteB h1 (fun c2 h2=>?_) (fun c2 h3=>?_)
  ·have t2 {Q:Prop} (q:Q):=t1 (aL c2 c2 c2 c2 q)
   refine iteB h2 (fun c3 h4=>?_) (fun c3 h5=>?_)
   ·have t3 {Q:Prop} (q:Q):=t2 (aL c3 c3 c3 c3 q)
    refine iteB h4 (fun c4 h6=>?_) (fun c4 h7=>?_)
    ·have t4 {Q:Prop} (q:Q):=t3 (aL c4 c4 c4 c4 q)
     refine iteB h6 (fun c5 h8=>?_) (fun c5 h9=>?_)
     ·refine iteB h8 (fun c6 h10=>?_) (fun c6 h11=>?_)
      ·refine iteB h10 (fun c7 h12=>?_) (fun c7 h13=>?_)
       ·obtain rfl:=Zaa h12
        exact af fol hE (o1 ++ [.r []]) [] 0 [] (t4 (aO c5 c5 c5 c5 c6 c6 c6 (aL c6 c7 c7 c7 c7)))
       ·obtain rfl:=Zaa h13
        exact af fol hE (o1 ++ [.r [(27,wF),(28,wF),(29,wF),(30,yF)]]) [] 0 [] (t4 (aO c5 c5 c5 c5 c6 c6 c6 (aL c6 c7 c7 c7 c7)))
      ·obtain rfl:=Zaa h11
       exact af fol hE (o1 ++ [.r [(22,wF),(23,wF),(24,wF),(25,yF),(27,wF),(28,wF),(29,wF),(30,yF)]]) [] 0 [] (t4 (aO c5 c5 c5 c5 c6 c6 c6 (aL c6 eF eF eF eF)))
     ·obtain rfl:=Zaa h9
      exact af fol hE (o1 ++ [.r [(17,wF),(18,wF),(19,wF),(20,yF),(22,wF),(23,wF),(24,wF),(25,yF),(27,wF),(28,wF),(29,wF),(30,yF)]]) [] 0 [] (t4 (aO c5 c5 c5 c5 eF eF eF (aL eF eF eF eF eF)))
    ·obtain rfl:=Zaa h7
     exact af fol hE (o1 ++ [.r [(12,wF),(13,wF),(14,wF),(15,yF),(17,wF),(18,wF),(19,wF),(20,yF),(22,wF),(23,wF),(24,wF),(25,yF),(27,wF),(28,wF),(29,wF),(30,yF)]]) [] 0 [] (t3 (aO c4 c4 c4 c4 eF eF eF (aO eF eF eF eF eF eF eF (aI eF eF))))
   ·obtain rfl:=Zaa h5
    exact af fol hE (o1 ++ [.r [(7,wF),(8,wF),(9,wF),(10,yF),(12,wF),(13,wF),(14,wF),(15,yF),(17,wF),(18,wF),(19,wF),(20,yF),(22,wF),(23,wF),(24,wF),(25,yF),(27,wF),(28,wF),(29,wF),(30,yF)]]) [] 0 [] (t2 (aO c3 c3 c3 c3 eF eF eF (aO eF eF eF eF eF eF eF (aM eF eF eF eF eF eF))))
  ·obtain rfl:=Zaa h3
   exact af fol hE (o1 ++ [.r [(2,wF),(3,wF),(4,wF),(5,yF),(7,wF),(8,wF),(9,wF),(10,yF),(12,wF),(13,wF),(14,wF),(15,yF),(17,wF),(18,wF),(19,wF),(20,yF),(22,wF),(23,wF),(24,wF),(25,yF),(27,wF),(28,wF),(29,wF),(30,yF)]]) [] 0 [] (t1 (aO c2 c2 c2 c2 eF eF eF (aO eF eF eF eF eF eF eF (aO eF eF eF eF eF eF eF (aJ eF eF eF)))))
noncomputable def Zbi.B:Code:=Tryz.f87.body.getD .skip
noncomputable def Zbi.rs (r:Bool):List CV:=[oB r]
noncomputable def Zbi.p2 (N:Nat) (p_0:Zan) (c2_:Int→Option Bool):Int→Option Bool:=fun v6=>
 if (decide (v6<(len p_0.Checks)))=true then
  chk (0≤v6)<|
  getE (p_0.Checks[Int.toNat v6]?) Zdc fun x7=>
  if (decide (x7.Height<1))=true then
   some false
  else
  if (decide (v6>0))=true then
   chk (0≤(w64 (v6-1)))<|
   chk ((w64 (v6-1))<(len p_0.Checks))<|
   getE (p_0.Checks[Int.toNat (w64 (v6-1))]?) Zdc fun x8=>
   if (decide (x7.Height≤x8.Height))=true then
    some false
   else
   c2_ (w64 (v6+1))
  else
  c2_ (w64 (v6+1))
 else
 some true
noncomputable def Zbi.p1 (N:Nat) (p_0:Zan) (c1_:Int→Option Bool):Int→Option Bool:=fun v3=>
 if (decide (v3<(len p_0.Gates)))=true then
  chk (0≤v3)<|
  getE (p_0.Gates[Int.toNat v3]?) Zdr fun x4=>
  if (decide (x4.Height<0))=true then
   some false
  else
  if (decide (v3>0))=true then
   chk (0≤(w64 (v3-1)))<|
   chk ((w64 (v3-1))<(len p_0.Gates))<|
   getE (p_0.Gates[Int.toNat (w64 (v3-1))]?) Zdr fun x5=>
   if (decide (x4.Height≤x5.Height))=true then
    some false
   else
   c1_ (w64 (v3+1))
  else
  c1_ (w64 (v3+1))
 else
 loopN (Zbi.p2 N p_0) N 0
noncomputable def Zbi (N:Nat) (p_0:Zan):Option Bool:=
 optE (ZcV N p_0) fun x1=>
 if (!x1)=true then
  some false
 else
 optE (ZbP N p_0.Genesis) fun x2=>
 if (!x2)=true then
  some false
 else
 loopN (Zbi.p1 N p_0) N 0
noncomputable def Zbi.p2.S (p_0:Zan) (v6:Int) (st:LL):S:=mkS 72 [(1,sA 1),(45,sV 33 p_0.Checks),(46,sI (len p_0.Checks)),(47,sI v6)] [(1,.cells p_0.ls)] st
noncomputable def Zbi.p1.S (p_0:Zan) (v3:Int) (st:LL):S:=mkS 72 [(1,sA 1),(17,sV 2 p_0.Gates),(18,sI (len p_0.Gates)),(19,sI v3)] [(1,.cells p_0.ls)] st
theorem Zbi.p2_ok {p_0 v6 st r c2_ J2} (h:Zbi.p2 N p_0 c2_ v6=some r) (hE:En Tryz.f87 g0 w0 (Zbi.rs r) st R) (hc2 : ∀v6,c2_ v6=some r→At g0 w0 (Zbi.p2.S p_0 v6 st) J2):At g0 w0 (Zbi.p2.S p_0 v6 st) (XK Tryz.prog R (.c (csub Zbi.B [1,1,1,0,1,0,0]) :: .h J2 :: [.b 2,.c (csub Zbi.B [1,1,1,1])])):=by
 unfold Zbi.p2 at h
 refine iteB h (fun c14 h1=>?_) (fun c14 h2=>?_)
 ·obtain ⟨c15,h3⟩:=ZaS h1
  obtain ⟨x7,c16,h4⟩:=Zdx h3
  let o1:List PS:=[.r [],.c true,.r [(2,{oe:=x7.ls})]]
  have t1 {Q:Prop} (q:Q):=aL c14 c15 (oD c14) c16 q
  refine iteB h4 (fun c17 h5=>?_) (fun c17 h6=>?_)
  ·obtain rfl:=Zaa h5
   exact afd fol hE (o1 ++ [.d {ds:=[(4,wF),(5,wF),(6,wF),(17,wF)],hv:=0,Hs:=[]},.c true,.r []]) [] 0 [] (t1 (aM c17 c17 c17 c17 c17 eT))
  ·refine iteB h6 (fun c18 h7=>?_) (fun c18 h8=>?_)
   ·obtain ⟨c19,c20,h9⟩:=ck2 h7
    obtain ⟨x8,c21,h10⟩:=Zdx h9
    let o2:List PS:=o1 ++ [.d {ds:=[(15,{oe:=x8.ls}),(18,yF)],hv:=0,Hs:=[]}]
    have t2 {Q:Prop} (q:Q):=t1 (aO c17 c17 c17 c18 c18 c18 c18 (aO c18 c18 c18 c19 c20 c18 c18 (aM c21 c18 c17 c18 c17 q)))
    refine iteB h10 (fun c22 h11=>?_) (fun c22 h12=>?_)
    ·obtain rfl:=Zaa h11
     exact afd fol hE (o2 ++ [.c true,.r []]) [] 0 [] (t2 c22)
    ·exact and_ fol (o2 ++ [.c false,.r []]) [1,45,46,47] [1] (t2 c22) (hc2 (w64 (v6+1)) h12)
   ·exact and_ fol (o1 ++ [.d {ds:=[(7,wF),(8,wF),(9,wF),(10,wF),(11,wF),(12,wF),(13,wF),(14,wF),(15,wF),(16,wF),(17,yF),(18,yF)],hv:=0,Hs:=[]},.c false,.r []]) [1,45,46,47] [1] (t1 (aO c17 c17 c17 c18 c18 c18 c18 (aO c18 c18 c18 c18 c18 c18 c17 (aJ c18 c17 eF)))) (hc2 (w64 (v6+1)) h8)
 ·obtain rfl:=Zaa h2
  exact af fol hE [.r [],.c false,.r []] [] 0 [] c14
theorem Zbi.p1_ok {p_0 v3 st r c1_ J1} (h:Zbi.p1 N p_0 c1_ v3=some r) (hE:En Tryz.f87 g0 w0 (Zbi.rs r) st R) (hc1 : ∀v3,c1_ v3=some r→At g0 w0 (Zbi.p1.S p_0 v3 st) J1):At g0 w0 (Zbi.p1.S p_0 v3 st) (XK Tryz.prog R (.c (csub Zbi.B [1,1,0,1,0,0]) :: .h J1 :: [.b 0,.c (csub Zbi.B [1,1,1])])):=by
 unfold Zbi.p1 at h
 refine iteB h (fun c5 h13=>?_) (fun c5 h14=>?_)
 ·obtain ⟨c6,h15⟩:=ZaS h13
  obtain ⟨x4,c7,h16⟩:=ZdD h15
  let o3:List PS:=[.r [],.c true,.r [(2,{oe:=x4.ls})]]
  have t3 {Q:Prop} (q:Q):=aL c5 c6 (oD c5) c7 q
  refine iteB h16 (fun c8 h17=>?_) (fun c8 h18=>?_)
  ·obtain rfl:=Zaa h17
   exact afd fol hE (o3 ++ [.d {ds:=[(4,wF),(5,wF),(6,wF),(17,wF)],hv:=0,Hs:=[]},.c true,.r []]) [] 0 [] (t3 (aM c8 c8 c8 c8 c8 eT))
  ·refine iteB h18 (fun c9 h19=>?_) (fun c9 h20=>?_)
   ·obtain ⟨c10,c11,h21⟩:=ck2 h19
    obtain ⟨x5,c12,h22⟩:=ZdD h21
    let o4:List PS:=o3 ++ [.d {ds:=[(15,{oe:=x5.ls}),(18,yF)],hv:=0,Hs:=[]}]
    have t4 {Q:Prop} (q:Q):=t3 (aO c8 c8 c8 c9 c9 c9 c9 (aO c9 c9 c9 c10 c11 c9 c9 (aM c12 c9 c8 c9 c8 q)))
    refine iteB h22 (fun c13 h23=>?_) (fun c13 h24=>?_)
    ·obtain rfl:=Zaa h23
     exact afd fol hE (o4 ++ [.c true,.r []]) [] 0 [] (t4 c13)
    ·exact and_ fol (o4 ++ [.c false,.r []]) [1,17,18,19] [1] (t4 c13) (hc1 (w64 (v3+1)) h24)
   ·exact and_ fol (o3 ++ [.d {ds:=[(7,wF),(8,wF),(9,wF),(10,wF),(11,wF),(12,wF),(13,wF),(14,wF),(15,wF),(16,wF),(17,yF),(18,yF)],hv:=0,Hs:=[]},.c false,.r []]) [1,17,18,19] [1] (t3 (aO c8 c8 c8 c9 c9 c9 c9 (aO c9 c9 c9 c9 c9 c9 c8 (aJ c9 c8 eF)))) (hc1 (w64 (v3+1)) h20)
 ·exact aq fol [.r [],.c false,.r []] [1,45,46,47] [1] c5 (At.loop N (At.loopN (fun y:Int=>Zbi.p2.S p_0 y st) (fun c J hc y h=>Zbi.p2_ok h hE (fun v6=>hc v6)) N 0 h14))
theorem Zbi.snd {p_0:Zan} {r:Bool} (h:Zbi N p_0=some r):SndQ Tryz.prog 87 [.agg p_0.ls] (Zbi.rs r):=fun st=>
 sO Zbi.B Tryz.func87 fun g0 w0 R hE=>by
  unfold Zbi at h
  obtain ⟨x1,c1,h25⟩:=Zac h
  have t5 {Q:Prop} (q:Q):=aI (ZcV.snd c1) q
  refine iteB h25 (fun c2 h26=>?_) (fun c2 h27=>?_)
  ·obtain rfl:=Zaa h26
   exact af fol hE [.r [],.r [(1,q1 [oB x1]),(4,wF),(5,wF),(6,wF),(7,wF)],.c true,.r []] [] 0 [] (t5 (aM (not_false (Zbs c2)) (not_false (Zbs c2)) (not_false (Zbs c2)) (not_false (Zbs c2)) (not_false (Zbs c2)) eT))
  ·obtain ⟨x2,c3,h28⟩:=Zac h27
   let o5:List PS:=[.r [],.r [(1,q1 [oB x1]),(6,q1 [oB x2]),(8,yF)]]
   have t6 {Q:Prop} (q:Q):=t5 (aN (not_true (Zbn c2)) (not_true (Zbn c2)) (not_true (Zbn c2)) (ZbP.snd c3) (not_true (Zbn c2)) (not_true (Zbn c2)) q)
   refine iteB h28 (fun c4 h29=>?_) (fun c4 h30=>?_)
   ·obtain rfl:=Zaa h29
    exact af fol hE (o5 ++ [.c true,.r []]) [] 0 [] (t6 c4)
   ·exact aq fol (o5 ++ [.c false,.r []]) [1,17,18,19] [1] (t6 c4) (At.loop N (At.loopN (fun y:Int=>Zbi.p1.S p_0 y st) (fun c J hc y h=>Zbi.p1_ok h hE (fun v3=>hc v3)) N 0 h30))
noncomputable def ZcX.B:Code:=Tryz.f162.body.getD .skip
noncomputable def ZcX.rs (r:Int):List CV:=[oI r]
noncomputable def ZcX (N:Nat) (times_0:LL):Option Int:=
 chk (0≤(if (11:Int)<(len times_0) then 11 else (len times_0)))<|
 chk ((Int.toNat (if (11:Int)<(len times_0) then 11 else (len times_0)))≤(List.length times_0))<|
 optE (Zbe N (List.take (Int.toNat (if (11:Int)<(len times_0) then 11 else (len times_0))) (List.drop 0 times_0))) fun x1=>
 if ((len x1)==0)=true then
  some 0
 else
 chk (isI x1=true)<|
 chk (List.length x1<4611686018427387904)<|
 chk (0≤(w64 (Int.tdiv (len x1) 2)))<|
 chk ((w64 (Int.tdiv (len x1) 2))<(len x1))<|
 getE ((sortR x1)[0+(Int.toNat (w64 (Int.tdiv (len x1) 2)))]?) ZdS fun x2=>
 some x2
theorem ZcX.snd {times_0:LL} {r:Int} (h:ZcX N times_0=some r):SndQ Tryz.prog 162 [.one (L.sl 1 times_0)] (ZcX.rs r):=fun st=>
 sO ZcX.B Tryz.func162 fun g0 w0 R hE=>by
  unfold ZcX at h
  obtain ⟨c1,c2,h1⟩:=ck2 h
  obtain ⟨x1,c3,h2⟩:=Zac h1
  let o1:List PS:=[.r [],.r [(5,{rs:=[.row true 1 x1],ns:=[9],m:=1})],.r []]
  have t1 {Q:Prop} (q:Q):=aL c1 (Nat.zero_le (Int.toNat (if (11:Int)<(len times_0) then 11 else (len times_0)))) c2 (Zbe.snd c3) q
  refine iteB h2 (fun c4 h3=>?_) (fun c4 h4=>?_)
  ·obtain rfl:=Zaa h3
   exact af fol hE (o1 ++ [.c true,.r []]) [] 0 [] (t1 c4)
  ·obtain ⟨c5,c6,c7,c8,h5⟩:=ck4 h4
   obtain ⟨x2,c9,h6⟩:=ZcS h5
   obtain rfl:=Zaa h6
   exact af fol hE (o1 ++ [.c false,.r [(1,{m:=7})],.r [(5,{oe:=[L.int .i64 x2]})]]) [] 0 [] (t1 (aO c4 z0 (@rfl _ (List.length x1):(List.length x1)=(List.length x1)) c5 c6 slices_Sort_int.snd (neI 2) (aJ c7 c8 c9)))
noncomputable def ZbX.B:Code:=Tryz.f103.body.getD .skip
noncomputable def ZbX.rs (r:Int):List CV:=[oI r]
noncomputable def ZbX (N:Nat) (plan_0:Zbr) (seconds_1:Int):Option Int:=
 optE (Zce N plan_0) fun x1=>
 if (!x1)=true then
  some 0
 else
 if (decide (seconds_1<0))=true then
  some 0
 else
 chk (plan_0.Period≠0)<|
 some (w64 ((w64 (Int.tdiv (w64 (6*(if (8589934592:Int)<seconds_1 then 8589934592 else seconds_1))) plan_0.Period))+1))
theorem ZbX.snd {plan_0:Zbr} {seconds_1:Int} {r:Int} (h:ZbX N plan_0 seconds_1=some r):SndQ Tryz.prog 103 [.agg plan_0.ls,oI seconds_1] (ZbX.rs r):=fun st=>
 sO ZbX.B Tryz.func103 fun g0 w0 R hE=>by
  unfold ZbX at h
  obtain ⟨x1,c1,h1⟩:=Zac h
  have t1 {Q:Prop} (q:Q):=aI (Zce.snd c1) q
  refine iteB h1 (fun c2 h2=>?_) (fun c2 h3=>?_)
  ·obtain rfl:=Zaa h2
   exact af fol hE [.r [],.r [(1,q1 [oB x1]),(4,wF),(5,wF)],.c true,.r []] [] 0 [] (t1 (aK (not_false (Zbs c2)) (not_false (Zbs c2)) (not_false (Zbs c2)) eT))
  ·let o1:List PS:=[.r [],.r [(1,q1 [oB x1]),(6,yF)]]
   have t2 {Q:Prop} (q:Q):=t1 (aK (not_true (Zbn c2)) (not_true (Zbn c2)) (not_true (Zbn c2)) q)
   refine iteB h3 (fun c3 h4=>?_) (fun c3 h5=>?_)
   ·obtain rfl:=Zaa h4
    exact af fol hE (o1 ++ [.c true,.r []]) [] 0 [] (t2 c3)
   ·obtain ⟨c4,h6⟩:=ZaS h5
    obtain rfl:=Zaa h6
    exact af fol hE (o1 ++ [.c false,.r []]) [] 0 [] (t2 (aI c3 c4))
noncomputable def Zci.B:Code:=Tryz.f102.body.getD .skip
noncomputable def Zci.rs (r:(Option Nat)×Int×LL):List CV:=[.one (L.ptr r.1),oI r.2.1]
noncomputable def Zci (N:Nat) (p_0:Zan) (from_1:ZcP) (plan_2:Zbr) (size_3 now_4:Int) (st:LL):Option ((Option Nat)×Int×LL):=
 optE (Zdh N plan_2 st) fun (x1,x2,st3)=>
 if (x2 != 0)=true then
  some (none,1,st3)
 else
 if (decide (size_3<1))=true then
  some (none,1,st3)
 else
 if (decide (size_3>64))=true then
  some (none,1,st3)
 else
 if (decide (now_4<0))=true then
  some (none,1,st3)
 else
 if (decide (now_4>4294967296))=true then
  some (none,1,st3)
 else
 optE (Zbi N p_0) fun x4=>
 if (!x4)=true then
  some (none,1,st3)
 else
 chk (List.length ([]++p_0.Gates)*16≤140737488355328)<|
 chk (List.length ([]++p_0.Checks)*40≤140737488355328)<|
 chk (List.length ([]++from_1.Spot.Times)*8≤140737488355328)<|
 optE (ZcX N from_1.Spot.Times) fun x5=>
 optE (ZbX N plan_2 (if (0:Int)>(w64 ((w64 (now_4+p_0.Future))-x5)) then 0 else (w64 ((w64 (now_4+p_0.Future))-x5)))) fun x6=>
 some ((some (List.length st3)),0,List.set (List.set (List.set (st3 ++ [[L.int .i64 p_0.Limit,L.int .i64 p_0.Interval,L.int .i64 p_0.Spacing,L.int .i64 p_0.Future,L.bool p_0.Easy,L.sl 2 ([]++p_0.Gates),L.sl 33 ([]++p_0.Checks),L.arr .u64 4 p_0.MinWork,L.arr .u64 4 p_0.Margin,L.int .i64 p_0.Genesis.Version,L.arr .u8 32 p_0.Genesis.Prev,L.arr .u8 32 p_0.Genesis.Root,L.int .i64 p_0.Genesis.Time,L.int .i64 p_0.Genesis.Bits,L.int .i64 p_0.Genesis.Nonce,L.int .i64 from_1.Spot.Point.Height,L.int .i64 from_1.Spot.Point.Bits,L.int .i64 from_1.Spot.Point.Time,L.int .i64 from_1.Spot.Point.First,L.int .i64 from_1.Spot.Point.Hard,L.arr .u8 32 from_1.Spot.Prev,L.sl 1 from_1.Spot.Times,L.arr .u64 4 from_1.Work,L.int .i64 0,L.int .i64 0,L.int .i64 0,L.int .i64 0,L.int .i64 0,L.arr .u8 32 (List.replicate 32 0),L.sl 1 [],L.arr .u64 4 (List.replicate 4 0),L.ptr x1,L.int .i64 1,L.int .i64 0,L.int .i64 size_3,L.own true 68 []]]) (List.length st3) [L.int .i64 p_0.Limit,L.int .i64 p_0.Interval,L.int .i64 p_0.Spacing,L.int .i64 p_0.Future,L.bool p_0.Easy,L.sl 2 ([]++p_0.Gates),L.sl 33 ([]++p_0.Checks),L.arr .u64 4 p_0.MinWork,L.arr .u64 4 p_0.Margin,L.int .i64 p_0.Genesis.Version,L.arr .u8 32 p_0.Genesis.Prev,L.arr .u8 32 p_0.Genesis.Root,L.int .i64 p_0.Genesis.Time,L.int .i64 p_0.Genesis.Bits,L.int .i64 p_0.Genesis.Nonce,L.int .i64 from_1.Spot.Point.Height,L.int .i64 from_1.Spot.Point.Bits,L.int .i64 from_1.Spot.Point.Time,L.int .i64 from_1.Spot.Point.First,L.int .i64 from_1.Spot.Point.Hard,L.arr .u8 32 from_1.Spot.Prev,L.sl 1 ([]++from_1.Spot.Times),L.arr .u64 4 from_1.Work,L.int .i64 0,L.int .i64 0,L.int .i64 0,L.int .i64 0,L.int .i64 0,L.arr .u8 32 (List.replicate 32 0),L.sl 1 [],L.arr .u64 4 (List.replicate 4 0),L.ptr x1,L.int .i64 1,L.int .i64 0,L.int .i64 size_3,L.own true 68 []]) (List.length st3) [L.int .i64 p_0.Limit,L.int .i64 p_0.Interval,L.int .i64 p_0.Spacing,L.int .i64 p_0.Future,L.bool p_0.Easy,L.sl 2 ([]++p_0.Gates),L.sl 33 ([]++p_0.Checks),L.arr .u64 4 p_0.MinWork,L.arr .u64 4 p_0.Margin,L.int .i64 p_0.Genesis.Version,L.arr .u8 32 p_0.Genesis.Prev,L.arr .u8 32 p_0.Genesis.Root,L.int .i64 p_0.Genesis.Time,L.int .i64 p_0.Genesis.Bits,L.int .i64 p_0.Genesis.Nonce,L.int .i64 from_1.Spot.Point.Height,L.int .i64 from_1.Spot.Point.Bits,L.int .i64 from_1.Spot.Point.Time,L.int .i64 from_1.Spot.Point.First,L.int .i64 from_1.Spot.Point.Hard,L.arr .u8 32 from_1.Spot.Prev,L.sl 1 ([]++from_1.Spot.Times),L.arr .u64 4 from_1.Work,L.int .i64 from_1.Spot.Point.Height,L.int .i64 from_1.Spot.Point.Bits,L.int .i64 from_1.Spot.Point.Time,L.int .i64 from_1.Spot.Point.First,L.int .i64 from_1.Spot.Point.Hard,L.arr .u8 32 from_1.Spot.Prev,L.sl 1 ([]++from_1.Spot.Times),L.arr .u64 4 from_1.Work,L.ptr x1,L.int .i64 1,L.int .i64 0,L.int .i64 size_3,L.own true 68 []]) (List.length st3) [L.int .i64 p_0.Limit,L.int .i64 p_0.Interval,L.int .i64 p_0.Spacing,L.int .i64 p_0.Future,L.bool p_0.Easy,L.sl 2 ([]++p_0.Gates),L.sl 33 ([]++p_0.Checks),L.arr .u64 4 p_0.MinWork,L.arr .u64 4 p_0.Margin,L.int .i64 p_0.Genesis.Version,L.arr .u8 32 p_0.Genesis.Prev,L.arr .u8 32 p_0.Genesis.Root,L.int .i64 p_0.Genesis.Time,L.int .i64 p_0.Genesis.Bits,L.int .i64 p_0.Genesis.Nonce,L.int .i64 from_1.Spot.Point.Height,L.int .i64 from_1.Spot.Point.Bits,L.int .i64 from_1.Spot.Point.Time,L.int .i64 from_1.Spot.Point.First,L.int .i64 from_1.Spot.Point.Hard,L.arr .u8 32 from_1.Spot.Prev,L.sl 1 ([]++from_1.Spot.Times),L.arr .u64 4 from_1.Work,L.int .i64 from_1.Spot.Point.Height,L.int .i64 from_1.Spot.Point.Bits,L.int .i64 from_1.Spot.Point.Time,L.int .i64 from_1.Spot.Point.First,L.int .i64 from_1.Spot.Point.Hard,L.arr .u8 32 from_1.Spot.Prev,L.sl 1 ([]++from_1.Spot.Times),L.arr .u64 4 from_1.Work,L.ptr x1,L.int .i64 1,L.int .i64 x6,L.int .i64 size_3,L.own true 68 []])
theorem Zci.snd {p_0:Zan} {from_1:ZcP} {plan_2:Zbr} {size_3 now_4:Int} {st:LL} {r:(Option Nat)×Int×LL} (h:Zci N p_0 from_1 plan_2 size_3 now_4 st=some r):Snd Tryz.prog 102 [.agg p_0.ls,.agg from_1.ls,.agg plan_2.ls,oI size_3,oI now_4] st (Zci.rs r) r.2.2:=
 sO Zci.B Tryz.func102 fun g0 w0 R hE=>by
  unfold Zci at h
  obtain ⟨⟨x1,x2,st3⟩,c1,h1⟩:=Zac h
  let o1:List PS:=[.r [],.r [(1,{rs:=[.one (L.ptr x1),oI x2],st:=st3})]]
  have t1 {Q:Prop} (q:Q):=aI (Zdh.snd c1) q
  refine iteB h1 (fun c2 h2=>?_) (fun c2 h3=>?_)
  ·obtain rfl:=Zaa h2
   exact af fol hE (o1 ++ [.r [(3,wF),(4,wF),(7,wF),(8,wF),(11,wF),(12,wF),(15,wF),(16,wF),(19,wF),(20,wF),(21,wF)],.c true,.r []]) [] 0 [] (t1 (aO c2 c2 c2 eT eT eT eT (aO eT eT eT eT eT eT eT (aJ eT eT eT))))
  ·have t2 {Q:Prop} (q:Q):=t1 (aK c2 c2 c2 q)
   refine iteB h3 (fun c3 h4=>?_) (fun c3 h5=>?_)
   ·obtain rfl:=Zaa h4
    exact af fol hE (o1 ++ [.r [(5,yF),(7,wF),(8,wF),(11,wF),(12,wF),(15,wF),(16,wF),(19,wF),(20,wF),(21,wF)],.c true,.r []]) [] 0 [] (t2 (aO c3 c3 c3 eT eT eT eT (aN eT eT eT eT eT eT eT)))
   ·have t3 {Q:Prop} (q:Q):=t2 (aK c3 c3 c3 q)
    refine iteB h5 (fun c4 h6=>?_) (fun c4 h7=>?_)
    ·obtain rfl:=Zaa h6
     exact af fol hE (o1 ++ [.r [(5,yF),(9,yF),(11,wF),(12,wF),(15,wF),(16,wF),(19,wF),(20,wF),(21,wF)],.c true,.r []]) [] 0 [] (t3 (aO c4 c4 c4 eT eT eT eT (aK eT eT eT eT)))
    ·refine iteB h7 (fun c5 h8=>?_) (fun c5 h9=>?_)
     ·obtain rfl:=Zaa h8
      exact af fol hE (o1 ++ [.r [(5,yF),(9,yF),(13,yF),(15,wF),(16,wF),(19,wF),(20,wF),(21,wF)],.c true,.r []]) [] 0 [] (t3 (aO c4 c4 c4 c5 c5 c5 eT (aK eT eT eT eT)))
     ·have t4 {Q:Prop} (q:Q):=t3 (aN c4 c4 c4 c5 c5 c5 q)
      refine iteB h9 (fun c6 h10=>?_) (fun c6 h11=>?_)
      ·obtain rfl:=Zaa h10
       exact af fol hE (o1 ++ [.r [(5,yF),(9,yF),(13,yF),(17,yF),(19,wF),(20,wF),(21,wF)],.c true,.r []]) [] 0 [] (t4 (aL c6 c6 c6 c6 eT))
      ·obtain ⟨x4,c7,h12⟩:=Zac h11
       let o2:List PS:=o1 ++ [.r [(5,yF),(9,yF),(13,yF),(17,yF),(20,q1 [oB x4]),(22,yF)]]
       refine iteB h12 (fun c8 h13=>?_) (fun c8 h14=>?_)
       ·obtain rfl:=Zaa h13
        exact af fol hE (o2 ++ [.c true,.r []]) [] 0 [] (t4 (aM c6 c6 (Zbi.snd c7) c6 c6 c8))
       ·obtain ⟨c9,c10,c11,h15⟩:=ck3 h14
        obtain ⟨x5,c12,h16⟩:=Zac h15
        obtain ⟨x6,c13,h17⟩:=Zac h16
        obtain rfl:=Zaa h17
        exact afd fol hE (o2 ++ [.c false,.d {ds:=[(7,{fz:=[45]}),(9,{fz:=[48]})],hv:=676,Hs:=[4,36,164,676]},.r [(8,{ns:=[35]}),(9,{m:=1})],.r [(9,{oc:=[L.int .i64 p_0.Limit,L.int .i64 p_0.Interval,L.int .i64 p_0.Spacing,L.int .i64 p_0.Future,L.bool p_0.Easy,L.sl 2 ([]++p_0.Gates),L.sl 33 ([]++p_0.Checks),L.arr .u64 4 p_0.MinWork,L.arr .u64 4 p_0.Margin,L.int .i64 p_0.Genesis.Version,L.arr .u8 32 p_0.Genesis.Prev,L.arr .u8 32 p_0.Genesis.Root,L.int .i64 p_0.Genesis.Time,L.int .i64 p_0.Genesis.Bits,L.int .i64 p_0.Genesis.Nonce,L.int .i64 from_1.Spot.Point.Height,L.int .i64 from_1.Spot.Point.Bits,L.int .i64 from_1.Spot.Point.Time,L.int .i64 from_1.Spot.Point.First,L.int .i64 from_1.Spot.Point.Hard,L.arr .u8 32 from_1.Spot.Prev,L.sl 1 from_1.Spot.Times,L.arr .u64 4 from_1.Work,L.int .i64 0,L.int .i64 0,L.int .i64 0,L.int .i64 0,L.int .i64 0,L.arr .u8 32 (List.replicate 32 0),L.sl 1 [],L.arr .u64 4 (List.replicate 4 0),L.ptr x1,L.int .i64 1,L.int .i64 0,L.int .i64 size_3,L.own true 68 []],fz:=[65]})],.r [(4,{oc:=[L.int .i64 p_0.Limit,L.int .i64 p_0.Interval,L.int .i64 p_0.Spacing,L.int .i64 p_0.Future,L.bool p_0.Easy,L.sl 2 ([]++p_0.Gates),L.sl 33 ([]++p_0.Checks),L.arr .u64 4 p_0.MinWork,L.arr .u64 4 p_0.Margin,L.int .i64 p_0.Genesis.Version,L.arr .u8 32 p_0.Genesis.Prev,L.arr .u8 32 p_0.Genesis.Root,L.int .i64 p_0.Genesis.Time,L.int .i64 p_0.Genesis.Bits,L.int .i64 p_0.Genesis.Nonce,L.int .i64 from_1.Spot.Point.Height,L.int .i64 from_1.Spot.Point.Bits,L.int .i64 from_1.Spot.Point.Time,L.int .i64 from_1.Spot.Point.First,L.int .i64 from_1.Spot.Point.Hard,L.arr .u8 32 from_1.Spot.Prev,L.sl 1 ([]++from_1.Spot.Times),L.arr .u64 4 from_1.Work,L.int .i64 0,L.int .i64 0,L.int .i64 0,L.int .i64 0,L.int .i64 0,L.arr .u8 32 (List.replicate 32 0),L.sl 1 [],L.arr .u64 4 (List.replicate 4 0),L.ptr x1,L.int .i64 1,L.int .i64 0,L.int .i64 size_3,L.own true 68 []]}),(7,{oc:=[L.int .i64 p_0.Limit,L.int .i64 p_0.Interval,L.int .i64 p_0.Spacing,L.int .i64 p_0.Future,L.bool p_0.Easy,L.sl 2 ([]++p_0.Gates),L.sl 33 ([]++p_0.Checks),L.arr .u64 4 p_0.MinWork,L.arr .u64 4 p_0.Margin,L.int .i64 p_0.Genesis.Version,L.arr .u8 32 p_0.Genesis.Prev,L.arr .u8 32 p_0.Genesis.Root,L.int .i64 p_0.Genesis.Time,L.int .i64 p_0.Genesis.Bits,L.int .i64 p_0.Genesis.Nonce,L.int .i64 from_1.Spot.Point.Height,L.int .i64 from_1.Spot.Point.Bits,L.int .i64 from_1.Spot.Point.Time,L.int .i64 from_1.Spot.Point.First,L.int .i64 from_1.Spot.Point.Hard,L.arr .u8 32 from_1.Spot.Prev,L.sl 1 ([]++from_1.Spot.Times),L.arr .u64 4 from_1.Work,L.int .i64 0,L.int .i64 0,L.int .i64 0,L.int .i64 0,L.int .i64 0,L.arr .u8 32 (List.replicate 32 0),L.sl 1 [],L.arr .u64 4 (List.replicate 4 0),L.ptr x1,L.int .i64 1,L.int .i64 0,L.int .i64 size_3,L.own true 68 []]})],.d {ds:=[(9,q1 [oI x5]),(12,q1 [oI x6]),(15,{oc:=[L.int .i64 p_0.Limit,L.int .i64 p_0.Interval,L.int .i64 p_0.Spacing,L.int .i64 p_0.Future,L.bool p_0.Easy,L.sl 2 ([]++p_0.Gates),L.sl 33 ([]++p_0.Checks),L.arr .u64 4 p_0.MinWork,L.arr .u64 4 p_0.Margin,L.int .i64 p_0.Genesis.Version,L.arr .u8 32 p_0.Genesis.Prev,L.arr .u8 32 p_0.Genesis.Root,L.int .i64 p_0.Genesis.Time,L.int .i64 p_0.Genesis.Bits,L.int .i64 p_0.Genesis.Nonce,L.int .i64 from_1.Spot.Point.Height,L.int .i64 from_1.Spot.Point.Bits,L.int .i64 from_1.Spot.Point.Time,L.int .i64 from_1.Spot.Point.First,L.int .i64 from_1.Spot.Point.Hard,L.arr .u8 32 from_1.Spot.Prev,L.sl 1 ([]++from_1.Spot.Times),L.arr .u64 4 from_1.Work,L.int .i64 from_1.Spot.Point.Height,L.int .i64 from_1.Spot.Point.Bits,L.int .i64 from_1.Spot.Point.Time,L.int .i64 from_1.Spot.Point.First,L.int .i64 from_1.Spot.Point.Hard,L.arr .u8 32 from_1.Spot.Prev,L.sl 1 ([]++from_1.Spot.Times),L.arr .u64 4 from_1.Work,L.ptr x1,L.int .i64 1,L.int .i64 0,L.int .i64 size_3,L.own true 68 []]})],hv:=32768,Hs:=[32768]},.r []]) [] 0 [] (t4 (aO c6 c6 (Zbi.snd c7) c6 c6 c8 c9 (aO c10 z0 (eN (List.length ([]++p_0.Gates))) z0 (eN (List.length ([]++p_0.Checks))) c11 (Zjx st3 [L.int .i64 p_0.Limit,L.int .i64 p_0.Interval,L.int .i64 p_0.Spacing,L.int .i64 p_0.Future,L.bool p_0.Easy,L.sl 2 ([]++p_0.Gates),L.sl 33 ([]++p_0.Checks),L.arr .u64 4 p_0.MinWork,L.arr .u64 4 p_0.Margin,L.int .i64 p_0.Genesis.Version,L.arr .u8 32 p_0.Genesis.Prev,L.arr .u8 32 p_0.Genesis.Root,L.int .i64 p_0.Genesis.Time,L.int .i64 p_0.Genesis.Bits,L.int .i64 p_0.Genesis.Nonce,L.int .i64 from_1.Spot.Point.Height,L.int .i64 from_1.Spot.Point.Bits,L.int .i64 from_1.Spot.Point.Time,L.int .i64 from_1.Spot.Point.First,L.int .i64 from_1.Spot.Point.Hard,L.arr .u8 32 from_1.Spot.Prev,L.sl 1 from_1.Spot.Times,L.arr .u64 4 from_1.Work,L.int .i64 0,L.int .i64 0,L.int .i64 0,L.int .i64 0,L.int .i64 0,L.arr .u8 32 (List.replicate 32 0),L.sl 1 [],L.arr .u64 4 (List.replicate 4 0),L.ptr x1,L.int .i64 1,L.int .i64 0,L.int .i64 size_3,L.own true 68 []]) (aN z0 (eN (List.length ([]++from_1.Spot.Times))) (ZbR (Zjx st3 [L.int .i64 p_0.Limit,L.int .i64 p_0.Interval,L.int .i64 p_0.Spacing,L.int .i64 p_0.Future,L.bool p_0.Easy,L.sl 2 ([]++p_0.Gates),L.sl 33 ([]++p_0.Checks),L.arr .u64 4 p_0.MinWork,L.arr .u64 4 p_0.Margin,L.int .i64 p_0.Genesis.Version,L.arr .u8 32 p_0.Genesis.Prev,L.arr .u8 32 p_0.Genesis.Root,L.int .i64 p_0.Genesis.Time,L.int .i64 p_0.Genesis.Bits,L.int .i64 p_0.Genesis.Nonce,L.int .i64 from_1.Spot.Point.Height,L.int .i64 from_1.Spot.Point.Bits,L.int .i64 from_1.Spot.Point.Time,L.int .i64 from_1.Spot.Point.First,L.int .i64 from_1.Spot.Point.Hard,L.arr .u8 32 from_1.Spot.Prev,L.sl 1 from_1.Spot.Times,L.arr .u64 4 from_1.Work,L.int .i64 0,L.int .i64 0,L.int .i64 0,L.int .i64 0,L.int .i64 0,L.arr .u8 32 (List.replicate 32 0),L.sl 1 [],L.arr .u64 4 (List.replicate 4 0),L.ptr x1,L.int .i64 1,L.int .i64 0,L.int .i64 size_3,L.own true 68 []]) [L.int .i64 p_0.Limit,L.int .i64 p_0.Interval,L.int .i64 p_0.Spacing,L.int .i64 p_0.Future,L.bool p_0.Easy,L.sl 2 ([]++p_0.Gates),L.sl 33 ([]++p_0.Checks),L.arr .u64 4 p_0.MinWork,L.arr .u64 4 p_0.Margin,L.int .i64 p_0.Genesis.Version,L.arr .u8 32 p_0.Genesis.Prev,L.arr .u8 32 p_0.Genesis.Root,L.int .i64 p_0.Genesis.Time,L.int .i64 p_0.Genesis.Bits,L.int .i64 p_0.Genesis.Nonce,L.int .i64 from_1.Spot.Point.Height,L.int .i64 from_1.Spot.Point.Bits,L.int .i64 from_1.Spot.Point.Time,L.int .i64 from_1.Spot.Point.First,L.int .i64 from_1.Spot.Point.Hard,L.arr .u8 32 from_1.Spot.Prev,L.sl 1 ([]++from_1.Spot.Times),L.arr .u64 4 from_1.Work,L.int .i64 0,L.int .i64 0,L.int .i64 0,L.int .i64 0,L.int .i64 0,L.arr .u8 32 (List.replicate 32 0),L.sl 1 [],L.arr .u64 4 (List.replicate 4 0),L.ptr x1,L.int .i64 1,L.int .i64 0,L.int .i64 size_3,L.own true 68 []]) (ZbR (Zjx st3 [L.int .i64 p_0.Limit,L.int .i64 p_0.Interval,L.int .i64 p_0.Spacing,L.int .i64 p_0.Future,L.bool p_0.Easy,L.sl 2 ([]++p_0.Gates),L.sl 33 ([]++p_0.Checks),L.arr .u64 4 p_0.MinWork,L.arr .u64 4 p_0.Margin,L.int .i64 p_0.Genesis.Version,L.arr .u8 32 p_0.Genesis.Prev,L.arr .u8 32 p_0.Genesis.Root,L.int .i64 p_0.Genesis.Time,L.int .i64 p_0.Genesis.Bits,L.int .i64 p_0.Genesis.Nonce,L.int .i64 from_1.Spot.Point.Height,L.int .i64 from_1.Spot.Point.Bits,L.int .i64 from_1.Spot.Point.Time,L.int .i64 from_1.Spot.Point.First,L.int .i64 from_1.Spot.Point.Hard,L.arr .u8 32 from_1.Spot.Prev,L.sl 1 from_1.Spot.Times,L.arr .u64 4 from_1.Work,L.int .i64 0,L.int .i64 0,L.int .i64 0,L.int .i64 0,L.int .i64 0,L.arr .u8 32 (List.replicate 32 0),L.sl 1 [],L.arr .u64 4 (List.replicate 4 0),L.ptr x1,L.int .i64 1,L.int .i64 0,L.int .i64 size_3,L.own true 68 []]) [L.int .i64 p_0.Limit,L.int .i64 p_0.Interval,L.int .i64 p_0.Spacing,L.int .i64 p_0.Future,L.bool p_0.Easy,L.sl 2 ([]++p_0.Gates),L.sl 33 ([]++p_0.Checks),L.arr .u64 4 p_0.MinWork,L.arr .u64 4 p_0.Margin,L.int .i64 p_0.Genesis.Version,L.arr .u8 32 p_0.Genesis.Prev,L.arr .u8 32 p_0.Genesis.Root,L.int .i64 p_0.Genesis.Time,L.int .i64 p_0.Genesis.Bits,L.int .i64 p_0.Genesis.Nonce,L.int .i64 from_1.Spot.Point.Height,L.int .i64 from_1.Spot.Point.Bits,L.int .i64 from_1.Spot.Point.Time,L.int .i64 from_1.Spot.Point.First,L.int .i64 from_1.Spot.Point.Hard,L.arr .u8 32 from_1.Spot.Prev,L.sl 1 ([]++from_1.Spot.Times),L.arr .u64 4 from_1.Work,L.int .i64 0,L.int .i64 0,L.int .i64 0,L.int .i64 0,L.int .i64 0,L.arr .u8 32 (List.replicate 32 0),L.sl 1 [],L.arr .u64 4 (List.replicate 4 0),L.ptr x1,L.int .i64 1,L.int .i64 0,L.int .i64 size_3,L.own true 68 []]) (ZcX.snd c12) (ZbX.snd c13) (ZbR (ZbR (Zjx st3 [L.int .i64 p_0.Limit,L.int .i64 p_0.Interval,L.int .i64 p_0.Spacing,L.int .i64 p_0.Future,L.bool p_0.Easy,L.sl 2 ([]++p_0.Gates),L.sl 33 ([]++p_0.Checks),L.arr .u64 4 p_0.MinWork,L.arr .u64 4 p_0.Margin,L.int .i64 p_0.Genesis.Version,L.arr .u8 32 p_0.Genesis.Prev,L.arr .u8 32 p_0.Genesis.Root,L.int .i64 p_0.Genesis.Time,L.int .i64 p_0.Genesis.Bits,L.int .i64 p_0.Genesis.Nonce,L.int .i64 from_1.Spot.Point.Height,L.int .i64 from_1.Spot.Point.Bits,L.int .i64 from_1.Spot.Point.Time,L.int .i64 from_1.Spot.Point.First,L.int .i64 from_1.Spot.Point.Hard,L.arr .u8 32 from_1.Spot.Prev,L.sl 1 from_1.Spot.Times,L.arr .u64 4 from_1.Work,L.int .i64 0,L.int .i64 0,L.int .i64 0,L.int .i64 0,L.int .i64 0,L.arr .u8 32 (List.replicate 32 0),L.sl 1 [],L.arr .u64 4 (List.replicate 4 0),L.ptr x1,L.int .i64 1,L.int .i64 0,L.int .i64 size_3,L.own true 68 []]) [L.int .i64 p_0.Limit,L.int .i64 p_0.Interval,L.int .i64 p_0.Spacing,L.int .i64 p_0.Future,L.bool p_0.Easy,L.sl 2 ([]++p_0.Gates),L.sl 33 ([]++p_0.Checks),L.arr .u64 4 p_0.MinWork,L.arr .u64 4 p_0.Margin,L.int .i64 p_0.Genesis.Version,L.arr .u8 32 p_0.Genesis.Prev,L.arr .u8 32 p_0.Genesis.Root,L.int .i64 p_0.Genesis.Time,L.int .i64 p_0.Genesis.Bits,L.int .i64 p_0.Genesis.Nonce,L.int .i64 from_1.Spot.Point.Height,L.int .i64 from_1.Spot.Point.Bits,L.int .i64 from_1.Spot.Point.Time,L.int .i64 from_1.Spot.Point.First,L.int .i64 from_1.Spot.Point.Hard,L.arr .u8 32 from_1.Spot.Prev,L.sl 1 ([]++from_1.Spot.Times),L.arr .u64 4 from_1.Work,L.int .i64 0,L.int .i64 0,L.int .i64 0,L.int .i64 0,L.int .i64 0,L.arr .u8 32 (List.replicate 32 0),L.sl 1 [],L.arr .u64 4 (List.replicate 4 0),L.ptr x1,L.int .i64 1,L.int .i64 0,L.int .i64 size_3,L.own true 68 []]) [L.int .i64 p_0.Limit,L.int .i64 p_0.Interval,L.int .i64 p_0.Spacing,L.int .i64 p_0.Future,L.bool p_0.Easy,L.sl 2 ([]++p_0.Gates),L.sl 33 ([]++p_0.Checks),L.arr .u64 4 p_0.MinWork,L.arr .u64 4 p_0.Margin,L.int .i64 p_0.Genesis.Version,L.arr .u8 32 p_0.Genesis.Prev,L.arr .u8 32 p_0.Genesis.Root,L.int .i64 p_0.Genesis.Time,L.int .i64 p_0.Genesis.Bits,L.int .i64 p_0.Genesis.Nonce,L.int .i64 from_1.Spot.Point.Height,L.int .i64 from_1.Spot.Point.Bits,L.int .i64 from_1.Spot.Point.Time,L.int .i64 from_1.Spot.Point.First,L.int .i64 from_1.Spot.Point.Hard,L.arr .u8 32 from_1.Spot.Prev,L.sl 1 ([]++from_1.Spot.Times),L.arr .u64 4 from_1.Work,L.int .i64 from_1.Spot.Point.Height,L.int .i64 from_1.Spot.Point.Bits,L.int .i64 from_1.Spot.Point.Time,L.int .i64 from_1.Spot.Point.First,L.int .i64 from_1.Spot.Point.Hard,L.arr .u8 32 from_1.Spot.Prev,L.sl 1 ([]++from_1.Spot.Times),L.arr .u64 4 from_1.Work,L.ptr x1,L.int .i64 1,L.int .i64 0,L.int .i64 size_3,L.own true 68 []])))))
noncomputable def Zdp.B:Code:=Tryz.f213.body.getD .skip
noncomputable def Zdp.rs (r:Int):List CV:=[oI r]
noncomputable def Zdp (N:Nat) (p_0:Zan) (from_1 to_2:Int):Option Int:=
 some (if (w64 ((w64 (p_0.Interval*p_0.Spacing))*4))<(if (w64 (Int.tdiv (w64 (p_0.Interval*p_0.Spacing)) 4))>(w64 (to_2-from_1)) then (w64 (Int.tdiv (w64 (p_0.Interval*p_0.Spacing)) 4)) else (w64 (to_2-from_1))) then (w64 ((w64 (p_0.Interval*p_0.Spacing))*4)) else (if (w64 (Int.tdiv (w64 (p_0.Interval*p_0.Spacing)) 4))>(w64 (to_2-from_1)) then (w64 (Int.tdiv (w64 (p_0.Interval*p_0.Spacing)) 4)) else (w64 (to_2-from_1))))
theorem Zdp.snd {p_0:Zan} {from_1 to_2:Int} {r:Int} (h:Zdp N p_0 from_1 to_2=some r):SndQ Tryz.prog 213 [.agg p_0.ls,oI from_1,oI to_2] (Zdp.rs r):=fun st=>
 sO Zdp.B Tryz.func213 fun g0 w0 R hE=>by
  unfold Zdp at h
  obtain rfl:=Zaa h
  exact af fol hE [.r [],.r [],.r []] [] 0 [] (neI 4)
noncomputable def Zap.B:Code:=Tryz.f222.body.getD .skip
noncomputable def Zap.rs (r:Int):List CV:=[oI r]
noncomputable def Zap.p3 (N:Nat) (x_5 n_6:Int):Option Int:=
 chk (0≤(v8 (x_5)))<|
 chk ((v8 (x_5))<((ByteArray.size (ByteArray.mk #[0,1,2,2,3,3,3,3,4,4,4,4,4,4,4,4,5,5,5,5,5,5,5,5,5,5,5,5,5,5,5,5,6,6,6,6,6,6,6,6,6,6,6,6,6,6,6,6,6,6,6,6,6,6,6,6,6,6,6,6,6,6,6,6,7,7,7,7,7,7,7,7,7,7,7,7,7,7,7,7,7,7,7,7,7,7,7,7,7,7,7,7,7,7,7,7,7,7,7,7,7,7,7,7,7,7,7,7,7,7,7,7,7,7,7,7,7,7,7,7,7,7,7,7,7,7,7,7,8,8,8,8,8,8,8,8,8,8,8,8,8,8,8,8,8,8,8,8,8,8,8,8,8,8,8,8,8,8,8,8,8,8,8,8,8,8,8,8,8,8,8,8,8,8,8,8,8,8,8,8,8,8,8,8,8,8,8,8,8,8,8,8,8,8,8,8,8,8,8,8,8,8,8,8,8,8,8,8,8,8,8,8,8,8,8,8,8,8,8,8,8,8,8,8,8,8,8,8,8,8,8,8,8,8,8,8,8,8,8,8,8,8,8,8,8,8,8,8,8,8,8,8,8,8,8,8]):Nat):Int))<|
 some (w64 (n_6+(w64 (((UInt8.toNat (List.getD (Array.toList (ByteArray.data (ByteArray.mk #[0,1,2,2,3,3,3,3,4,4,4,4,4,4,4,4,5,5,5,5,5,5,5,5,5,5,5,5,5,5,5,5,6,6,6,6,6,6,6,6,6,6,6,6,6,6,6,6,6,6,6,6,6,6,6,6,6,6,6,6,6,6,6,6,7,7,7,7,7,7,7,7,7,7,7,7,7,7,7,7,7,7,7,7,7,7,7,7,7,7,7,7,7,7,7,7,7,7,7,7,7,7,7,7,7,7,7,7,7,7,7,7,7,7,7,7,7,7,7,7,7,7,7,7,7,7,7,7,8,8,8,8,8,8,8,8,8,8,8,8,8,8,8,8,8,8,8,8,8,8,8,8,8,8,8,8,8,8,8,8,8,8,8,8,8,8,8,8,8,8,8,8,8,8,8,8,8,8,8,8,8,8,8,8,8,8,8,8,8,8,8,8,8,8,8,8,8,8,8,8,8,8,8,8,8,8,8,8,8,8,8,8,8,8,8,8,8,8,8,8,8,8,8,8,8,8,8,8,8,8,8,8,8,8,8,8,8,8,8,8,8,8,8,8,8,8,8,8,8,8,8,8,8,8,8,8]))) (Int.toNat (v8 (x_5))) 0):Nat):Int)))))
noncomputable def Zap.p2 (N:Nat) (x_3 n_4:Int):Option Int:=
 if (decide (x_3≥256))=true then
  Zap.p3 N (shrOf .u64 x_3 8) (w64 (n_4+8))
 else
 Zap.p3 N x_3 n_4
noncomputable def Zap.p1 (N:Nat) (x_1 n_2:Int):Option Int:=
 if (decide (x_1≥65536))=true then
  Zap.p2 N (shrOf .u64 x_1 16) (w64 (n_2+16))
 else
 Zap.p2 N x_1 n_2
noncomputable def Zap (N:Nat) (x_0:Int):Option Int:=
 if (decide (x_0≥4294967296))=true then
  Zap.p1 N (shrOf .u64 x_0 32) 32
 else
 Zap.p1 N x_0 0
noncomputable def Zap.p3.S (x_5 n_6:Int) (st:LL):S:=mkS 25 [(0,.one (.l (L.int .u64 x_5))),(2,sI n_6)] [] st
noncomputable def Zap.p2.S (x_3 n_4:Int) (st:LL):S:=mkS 25 [(0,.one (.l (L.int .u64 x_3))),(2,sI n_4)] [] st
noncomputable def Zap.p1.S (x_1 n_2:Int) (st:LL):S:=mkS 25 [(0,.one (.l (L.int .u64 x_1))),(2,sI n_2)] [] st
theorem Zap.p3_ok {x_5 n_6 st r} (h:Zap.p3 N x_5 n_6=some r) (hE:En Tryz.f222 g0 w0 (Zap.rs r) st R):At g0 w0 (Zap.p3.S x_5 n_6 st) (XK Tryz.prog R [.c (csub Zap.B [1,1,1,1])]):=by
 unfold Zap.p3 at h
 obtain ⟨c4,c5,h1⟩:=ck2 h
 obtain rfl:=Zaa h1
 exact af fol hE [.r []] [] 0 [] (aI c4 c5)
theorem Zap.p2_ok {x_3 n_4 st r} (h:Zap.p2 N x_3 n_4=some r) (hE:En Tryz.f222 g0 w0 (Zap.rs r) st R):At g0 w0 (Zap.p2.S x_3 n_4 st) (XK Tryz.prog R [.c (csub Zap.B [1,1,1])]):=by
 unfold Zap.p2 at h
 refine iteB h (fun c3 h2=>?_) (fun c3 h3=>?_)
 ·exact aq fol [.r [],.c true,.r [],.r [],.s 1] [0,2] [] (aI c3 (leI 0 8)) (Zap.p3_ok h2 hE)
 ·exact aq fol [.r [],.c false,.s 1] [0,2] [] c3 (Zap.p3_ok h3 hE)
theorem Zap.p1_ok {x_1 n_2 st r} (h:Zap.p1 N x_1 n_2=some r) (hE:En Tryz.f222 g0 w0 (Zap.rs r) st R):At g0 w0 (Zap.p1.S x_1 n_2 st) (XK Tryz.prog R [.c (csub Zap.B [1,1])]):=by
 unfold Zap.p1 at h
 refine iteB h (fun c2 h4=>?_) (fun c2 h5=>?_)
 ·exact aq fol [.r [],.c true,.r [],.r [],.s 1] [0,2] [] (aI c2 (leI 0 16)) (Zap.p2_ok h4 hE)
 ·exact aq fol [.r [],.c false,.s 1] [0,2] [] c2 (Zap.p2_ok h5 hE)
theorem Zap.snd {x_0:Int} {r:Int} (h:Zap N x_0=some r):SndQ Tryz.prog 222 [.one (L.int .u64 x_0)] (Zap.rs r):=fun st=>
 sO Zap.B Tryz.func222 fun g0 w0 R hE=>by
  unfold Zap at h
  refine iteB h (fun c1 h6=>?_) (fun c1 h7=>?_)
  ·exact aq fol [.r [],.r [],.c true,.r [],.r [],.s 1] [0,2] [] (aI c1 (leI 0 32)) (Zap.p1_ok h6 hE)
  ·exact aq fol [.r [],.r [],.c false,.s 1] [0,2] [] c1 (Zap.p1_ok h7 hE)
noncomputable def Zbj.B:Code:=Tryz.f238.body.getD .skip
noncomputable def Zbj.rs (r:Int):List CV:=[oI r]
noncomputable def Zbj (N:Nat) (x_0:Int):Option Int:=
 optE (Zap N x_0) fun x1=>
 some (w64 (64-x1))
theorem Zbj.snd {x_0:Int} {r:Int} (h:Zbj N x_0=some r):SndQ Tryz.prog 238 [.one (L.int .u64 x_0)] (Zbj.rs r):=fun st=>
 sO Zbj.B Tryz.func238 fun g0 w0 R hE=>by
  unfold Zbj at h
  obtain ⟨x1,c1,h1⟩:=Zac h
  obtain rfl:=Zaa h1
  exact af fol hE [.r [],.r [(1,q1 [oI x1])]] [] 0 [] (Zap.snd c1)
noncomputable def Zae.B:Code:=Tryz.f225.body.getD .skip
noncomputable def Zae.rs (r:Int×Int):List CV:=[.one (L.int .u64 r.1),.one (L.int .u64 r.2)]
noncomputable def Zae.p6 (N:Nat) (y_2 x1 lo_1 q1_4 hi_0 q0_7:Int):Option (Int×Int):=
 chk (0≤(v64 (x1)))<|
 some (v64 ((v64 (q1_4*4294967296))+q0_7),shrOf .u64 (v64 ((v64 ((v64 ((v64 ((v64 ((v64 ((bitsOf .or .u64 (shlOf .u64 hi_0 (v64 (x1))) (shrOf .u64 lo_1 (v64 (64-(v64 (x1))))))*4294967296))+(shrOf .u64 (shlOf .u64 lo_1 (v64 (x1))) 32)))-(v64 (q1_4*(shlOf .u64 y_2 (v64 (x1)))))))*4294967296))+(bitsOf .and .u64 (shlOf .u64 lo_1 (v64 (x1))) 4294967295)))-(v64 (q0_7*(shlOf .u64 y_2 (v64 (x1))))))) (v64 (x1)))
noncomputable def Zae.p5 (N:Nat) (c4_:(Int×Int)→Option (Int×Int)) (y_2 x1 lo_1 q1_4 rhat_5 hi_0 q0_6:Int):Option (Int×Int):=
 if (decide ((v64 (rhat_5+(shrOf .u64 (shlOf .u64 y_2 (v64 (x1))) 32)))≥4294967296))=true then
  Zae.p6 N y_2 x1 lo_1 q1_4 hi_0 (v64 (q0_6-1))
 else
 c4_ (v64 (rhat_5+(shrOf .u64 (shlOf .u64 y_2 (v64 (x1))) 32)),v64 (q0_6-1))
noncomputable def Zae.p4 (N:Nat) (y_2 x1 lo_1 q1_4 hi_0:Int) (c4_:(Int×Int)→Option (Int×Int)):(Int×Int)→Option (Int×Int):=fun (rhat_5,q0_6)=>
 if (decide (q0_6≥4294967296))=true then
  Zae.p5 N c4_ y_2 x1 lo_1 q1_4 rhat_5 hi_0 q0_6
 else
 if (decide ((v64 (q0_6*(bitsOf .and .u64 (shlOf .u64 y_2 (v64 (x1))) 4294967295)))>(v64 ((v64 (4294967296*rhat_5))+(bitsOf .and .u64 (shlOf .u64 lo_1 (v64 (x1))) 4294967295)))))=true then
  Zae.p5 N c4_ y_2 x1 lo_1 q1_4 rhat_5 hi_0 q0_6
 else
 Zae.p6 N y_2 x1 lo_1 q1_4 hi_0 q0_6
noncomputable def Zae.p3 (N:Nat) (y_2 x1 hi_0 lo_1 q1_4:Int):Option (Int×Int):=
 chk ((shrOf .u64 (shlOf .u64 y_2 (v64 (x1))) 32)≠0)<|
 loopN (Zae.p4 N y_2 x1 lo_1 q1_4 hi_0) N (v64 ((v64 ((v64 ((v64 ((bitsOf .or .u64 (shlOf .u64 hi_0 (v64 (x1))) (shrOf .u64 lo_1 (v64 (64-(v64 (x1))))))*4294967296))+(shrOf .u64 (shlOf .u64 lo_1 (v64 (x1))) 32)))-(v64 (q1_4*(shlOf .u64 y_2 (v64 (x1)))))))-(v64 ((v64 (Int.tdiv (v64 ((v64 ((v64 ((bitsOf .or .u64 (shlOf .u64 hi_0 (v64 (x1))) (shrOf .u64 lo_1 (v64 (64-(v64 (x1))))))*4294967296))+(shrOf .u64 (shlOf .u64 lo_1 (v64 (x1))) 32)))-(v64 (q1_4*(shlOf .u64 y_2 (v64 (x1))))))) (shrOf .u64 (shlOf .u64 y_2 (v64 (x1))) 32)))*(shrOf .u64 (shlOf .u64 y_2 (v64 (x1))) 32)))),v64 (Int.tdiv (v64 ((v64 ((v64 ((bitsOf .or .u64 (shlOf .u64 hi_0 (v64 (x1))) (shrOf .u64 lo_1 (v64 (64-(v64 (x1))))))*4294967296))+(shrOf .u64 (shlOf .u64 lo_1 (v64 (x1))) 32)))-(v64 (q1_4*(shlOf .u64 y_2 (v64 (x1))))))) (shrOf .u64 (shlOf .u64 y_2 (v64 (x1))) 32)))
noncomputable def Zae.p2 (N:Nat) (c1_:(Int×Int)→Option (Int×Int)) (y_2 x1 hi_0 lo_1 q1_2 rhat_3:Int):Option (Int×Int):=
 if (decide ((v64 (rhat_3+(shrOf .u64 (shlOf .u64 y_2 (v64 (x1))) 32)))≥4294967296))=true then
  Zae.p3 N y_2 x1 hi_0 lo_1 (v64 (q1_2-1))
 else
 c1_ (v64 (q1_2-1),v64 (rhat_3+(shrOf .u64 (shlOf .u64 y_2 (v64 (x1))) 32)))
noncomputable def Zae.p1 (N:Nat) (y_2 x1 hi_0 lo_1:Int) (c1_:(Int×Int)→Option (Int×Int)):(Int×Int)→Option (Int×Int):=fun (q1_2,rhat_3)=>
 if (decide (q1_2≥4294967296))=true then
  Zae.p2 N c1_ y_2 x1 hi_0 lo_1 q1_2 rhat_3
 else
 if (decide ((v64 (q1_2*(bitsOf .and .u64 (shlOf .u64 y_2 (v64 (x1))) 4294967295)))>(v64 ((v64 (4294967296*rhat_3))+(shrOf .u64 (shlOf .u64 lo_1 (v64 (x1))) 32)))))=true then
  Zae.p2 N c1_ y_2 x1 hi_0 lo_1 q1_2 rhat_3
 else
 Zae.p3 N y_2 x1 hi_0 lo_1 q1_2
noncomputable def Zae (N:Nat) (hi_0 lo_1 y_2:Int):Option (Int×Int):=
 if (y_2==0)=true then
  none
 else
 if (decide (y_2≤hi_0))=true then
  none
 else
 if (hi_0==0)=true then
  chk (y_2≠0)<|
  some (v64 (Int.tdiv lo_1 y_2),Int.tmod lo_1 y_2)
 else
 optE (Zbj N y_2) fun x1=>
 chk (0≤(v64 (x1)))<|
 chk (0≤(v64 (64-(v64 (x1)))))<|
 chk ((shrOf .u64 (shlOf .u64 y_2 (v64 (x1))) 32)≠0)<|
 loopN (Zae.p1 N y_2 x1 hi_0 lo_1) N (v64 (Int.tdiv (bitsOf .or .u64 (shlOf .u64 hi_0 (v64 (x1))) (shrOf .u64 lo_1 (v64 (64-(v64 (x1)))))) (shrOf .u64 (shlOf .u64 y_2 (v64 (x1))) 32)),v64 ((bitsOf .or .u64 (shlOf .u64 hi_0 (v64 (x1))) (shrOf .u64 lo_1 (v64 (64-(v64 (x1))))))-(v64 ((v64 (Int.tdiv (bitsOf .or .u64 (shlOf .u64 hi_0 (v64 (x1))) (shrOf .u64 lo_1 (v64 (64-(v64 (x1)))))) (shrOf .u64 (shlOf .u64 y_2 (v64 (x1))) 32)))*(shrOf .u64 (shlOf .u64 y_2 (v64 (x1))) 32)))))
noncomputable def Zae.p6.S (y_2 x1 lo_1 q1_4 hi_0 q0_7:Int) (st:LL):S:=mkS 135 [(2,.one (.l (L.int .u64 (shlOf .u64 y_2 (v64 (x1)))))),(8,.one (.l (L.int .u64 (v64 (x1))))),(14,.one (.l (L.int .u64 (bitsOf .and .u64 (shlOf .u64 lo_1 (v64 (x1))) 4294967295)))),(15,.one (.l (L.int .u64 q1_4))),(17,.one (.l (L.int .u64 (v64 ((v64 ((v64 ((bitsOf .or .u64 (shlOf .u64 hi_0 (v64 (x1))) (shrOf .u64 lo_1 (v64 (64-(v64 (x1))))))*4294967296))+(shrOf .u64 (shlOf .u64 lo_1 (v64 (x1))) 32)))-(v64 (q1_4*(shlOf .u64 y_2 (v64 (x1)))))))))),(18,.one (.l (L.int .u64 q0_7)))] [] st
noncomputable def Zae.p5.S (y_2 x1 lo_1 q1_4 rhat_5 hi_0 q0_6:Int) (st:LL):S:=mkS 135 [(2,.one (.l (L.int .u64 (shlOf .u64 y_2 (v64 (x1)))))),(8,.one (.l (L.int .u64 (v64 (x1))))),(9,.one (.l (L.int .u64 (shrOf .u64 (shlOf .u64 y_2 (v64 (x1))) 32)))),(10,.one (.l (L.int .u64 (bitsOf .and .u64 (shlOf .u64 y_2 (v64 (x1))) 4294967295)))),(14,.one (.l (L.int .u64 (bitsOf .and .u64 (shlOf .u64 lo_1 (v64 (x1))) 4294967295)))),(15,.one (.l (L.int .u64 q1_4))),(16,.one (.l (L.int .u64 rhat_5))),(17,.one (.l (L.int .u64 (v64 ((v64 ((v64 ((bitsOf .or .u64 (shlOf .u64 hi_0 (v64 (x1))) (shrOf .u64 lo_1 (v64 (64-(v64 (x1))))))*4294967296))+(shrOf .u64 (shlOf .u64 lo_1 (v64 (x1))) 32)))-(v64 (q1_4*(shlOf .u64 y_2 (v64 (x1)))))))))),(18,.one (.l (L.int .u64 q0_6)))] [] st
noncomputable def Zae.p4.S (y_2 x1 lo_1 q1_4 rhat_5 hi_0 q0_6:Int) (st:LL):S:=mkS 135 [(2,.one (.l (L.int .u64 (shlOf .u64 y_2 (v64 (x1)))))),(8,.one (.l (L.int .u64 (v64 (x1))))),(9,.one (.l (L.int .u64 (shrOf .u64 (shlOf .u64 y_2 (v64 (x1))) 32)))),(10,.one (.l (L.int .u64 (bitsOf .and .u64 (shlOf .u64 y_2 (v64 (x1))) 4294967295)))),(14,.one (.l (L.int .u64 (bitsOf .and .u64 (shlOf .u64 lo_1 (v64 (x1))) 4294967295)))),(15,.one (.l (L.int .u64 q1_4))),(16,.one (.l (L.int .u64 rhat_5))),(17,.one (.l (L.int .u64 (v64 ((v64 ((v64 ((bitsOf .or .u64 (shlOf .u64 hi_0 (v64 (x1))) (shrOf .u64 lo_1 (v64 (64-(v64 (x1))))))*4294967296))+(shrOf .u64 (shlOf .u64 lo_1 (v64 (x1))) 32)))-(v64 (q1_4*(shlOf .u64 y_2 (v64 (x1)))))))))),(18,.one (.l (L.int .u64 q0_6)))] [] st
noncomputable def Zae.p3.S (y_2 x1 hi_0 lo_1 q1_4:Int) (st:LL):S:=mkS 135 [(2,.one (.l (L.int .u64 (shlOf .u64 y_2 (v64 (x1)))))),(8,.one (.l (L.int .u64 (v64 (x1))))),(9,.one (.l (L.int .u64 (shrOf .u64 (shlOf .u64 y_2 (v64 (x1))) 32)))),(10,.one (.l (L.int .u64 (bitsOf .and .u64 (shlOf .u64 y_2 (v64 (x1))) 4294967295)))),(11,.one (.l (L.int .u64 (bitsOf .or .u64 (shlOf .u64 hi_0 (v64 (x1))) (shrOf .u64 lo_1 (v64 (64-(v64 (x1))))))))),(13,.one (.l (L.int .u64 (shrOf .u64 (shlOf .u64 lo_1 (v64 (x1))) 32)))),(14,.one (.l (L.int .u64 (bitsOf .and .u64 (shlOf .u64 lo_1 (v64 (x1))) 4294967295)))),(15,.one (.l (L.int .u64 q1_4)))] [] st
noncomputable def Zae.p2.S (y_2 x1 hi_0 lo_1 q1_2 rhat_3:Int) (st:LL):S:=mkS 135 [(2,.one (.l (L.int .u64 (shlOf .u64 y_2 (v64 (x1)))))),(8,.one (.l (L.int .u64 (v64 (x1))))),(9,.one (.l (L.int .u64 (shrOf .u64 (shlOf .u64 y_2 (v64 (x1))) 32)))),(10,.one (.l (L.int .u64 (bitsOf .and .u64 (shlOf .u64 y_2 (v64 (x1))) 4294967295)))),(11,.one (.l (L.int .u64 (bitsOf .or .u64 (shlOf .u64 hi_0 (v64 (x1))) (shrOf .u64 lo_1 (v64 (64-(v64 (x1))))))))),(13,.one (.l (L.int .u64 (shrOf .u64 (shlOf .u64 lo_1 (v64 (x1))) 32)))),(14,.one (.l (L.int .u64 (bitsOf .and .u64 (shlOf .u64 lo_1 (v64 (x1))) 4294967295)))),(15,.one (.l (L.int .u64 q1_2))),(16,.one (.l (L.int .u64 rhat_3)))] [] st
noncomputable def Zae.p1.S (y_2 x1 hi_0 lo_1 q1_2 rhat_3:Int) (st:LL):S:=mkS 135 [(2,.one (.l (L.int .u64 (shlOf .u64 y_2 (v64 (x1)))))),(8,.one (.l (L.int .u64 (v64 (x1))))),(9,.one (.l (L.int .u64 (shrOf .u64 (shlOf .u64 y_2 (v64 (x1))) 32)))),(10,.one (.l (L.int .u64 (bitsOf .and .u64 (shlOf .u64 y_2 (v64 (x1))) 4294967295)))),(11,.one (.l (L.int .u64 (bitsOf .or .u64 (shlOf .u64 hi_0 (v64 (x1))) (shrOf .u64 lo_1 (v64 (64-(v64 (x1))))))))),(13,.one (.l (L.int .u64 (shrOf .u64 (shlOf .u64 lo_1 (v64 (x1))) 32)))),(14,.one (.l (L.int .u64 (bitsOf .and .u64 (shlOf .u64 lo_1 (v64 (x1))) 4294967295)))),(15,.one (.l (L.int .u64 q1_2))),(16,.one (.l (L.int .u64 rhat_3)))] [] st
theorem Zae.p6_ok {y_2 x1 lo_1 q1_4 hi_0 q0_7 st r} (h:Zae.p6 N y_2 x1 lo_1 q1_4 hi_0 q0_7=some r) (hE:En Tryz.f225 g0 w0 (Zae.rs r) st R):At g0 w0 (Zae.p6.S y_2 x1 lo_1 q1_4 hi_0 q0_7 st) (XK Tryz.prog R [.c (csub Zae.B [1,1,1,1,1,1,1,1,1,1,1,1,1,1,1,1,1,1,1])]):=by
 unfold Zae.p6 at h
 obtain ⟨c16,h1⟩:=ZaS h
 obtain rfl:=Zaa h1
 exact af fol hE [.r []] [] 0 [] c16
theorem Zae.p5_ok {y_2 x1 lo_1 q1_4 rhat_5 hi_0 q0_6 st r c4_ J4} (h:Zae.p5 N c4_ y_2 x1 lo_1 q1_4 rhat_5 hi_0 q0_6=some r) (hE:En Tryz.f225 g0 w0 (Zae.rs r) st R) (hc4 : ∀rhat_5 q0_6,c4_ (rhat_5,q0_6)=some r→At g0 w0 (Zae.p4.S y_2 x1 lo_1 q1_4 rhat_5 hi_0 q0_6 st) J4):At g0 w0 (Zae.p5.S y_2 x1 lo_1 q1_4 rhat_5 hi_0 q0_6 st) (XK Tryz.prog R [.c (csub Zae.B [1,1,1,1,1,1,1,1,1,1,1,1,1,1,1,1,1,1,0,0,0,1]),.h J4,.b 2,.c (csub Zae.B [1,1,1,1,1,1,1,1,1,1,1,1,1,1,1,1,1,1,1])]):=by
 unfold Zae.p5 at h
 refine iteB h (fun c15 h2=>?_) (fun c15 h3=>?_)
 ·exact aq fol [.r [],.r [],.r [],.c true,.s 1] [2,8,14,15,17,18] [] c15 (Zae.p6_ok h2 hE)
 ·exact an fol [.r [],.r [],.r [],.c false] [2,8,9,10,14,15,16,17,18] [] c15 (hc4 (v64 (rhat_5+(shrOf .u64 (shlOf .u64 y_2 (v64 (x1))) 32))) (v64 (q0_6-1)) h3)
theorem Zae.p4_ok {y_2 x1 lo_1 q1_4 rhat_5 hi_0 q0_6 st r c4_ J4} (h:Zae.p4 N y_2 x1 lo_1 q1_4 hi_0 c4_ (rhat_5,q0_6)=some r) (hE:En Tryz.f225 g0 w0 (Zae.rs r) st R) (hc4 : ∀rhat_5 q0_6,c4_ (rhat_5,q0_6)=some r→At g0 w0 (Zae.p4.S y_2 x1 lo_1 q1_4 rhat_5 hi_0 q0_6 st) J4):At g0 w0 (Zae.p4.S y_2 x1 lo_1 q1_4 rhat_5 hi_0 q0_6 st) (XK Tryz.prog R (.c (csub Zae.B [1,1,1,1,1,1,1,1,1,1,1,1,1,1,1,1,1,1,0,0,0]) :: .h J4 :: [.b 2,.c (csub Zae.B [1,1,1,1,1,1,1,1,1,1,1,1,1,1,1,1,1,1,1])])):=by
 unfold Zae.p4 at h
 refine iteB h (fun c13 h4=>?_) (fun c13 h5=>?_)
 ·exact aq fol [.r [(3,wF),(4,wF),(5,wF),(6,wF),(7,wF),(8,wF),(9,wF),(10,wF)],.c true,.s 4] [2,8,9,10,14,15,16,17,18] [] (aO c13 c13 c13 c13 c13 c13 c13 (aJ c13 c13 eT)) (Zae.p5_ok h4 hE hc4)
 ·have t1 {Q:Prop} (q:Q):=aO c13 c13 c13 c13 c13 c13 c13 (aJ c13 c13 q)
  refine iteB h5 (fun c14 h6=>?_) (fun c14 h7=>?_)
  ·exact aq fol [.r [(11,yF)],.c true,.s 4] [2,8,9,10,14,15,16,17,18] [] (t1 c14) (Zae.p5_ok h6 hE hc4)
  ·exact aq fol [.r [(11,yF)],.c false,.s 1] [2,8,14,15,17,18] [] (t1 c14) (Zae.p6_ok h7 hE)
theorem Zae.p3_ok {y_2 x1 hi_0 lo_1 q1_4 st r} (h:Zae.p3 N y_2 x1 hi_0 lo_1 q1_4=some r) (hE:En Tryz.f225 g0 w0 (Zae.rs r) st R):At g0 w0 (Zae.p3.S y_2 x1 hi_0 lo_1 q1_4 st) (XK Tryz.prog R [.c (csub Zae.B [1,1,1,1,1,1,1,1,1,1,1,1,1,1,1])]):=by
 unfold Zae.p3 at h
 obtain ⟨c12,h8⟩:=ZaS h
 exact aq fol [.r [],.r [],.r []] [2,8,9,10,14,15,16,17,18] [] c12 (At.loop N (At.loopN (fun y:Int×Int=>Zae.p4.S y_2 x1 lo_1 q1_4 y.1 hi_0 y.2 st) (fun c J hc y h=>Zae.p4_ok (rhat_5:=y.1) (q0_6:=y.2) h hE (fun rhat_5 q0_6=>hc (rhat_5,q0_6))) N (v64 ((v64 ((v64 ((v64 ((bitsOf .or .u64 (shlOf .u64 hi_0 (v64 (x1))) (shrOf .u64 lo_1 (v64 (64-(v64 (x1))))))*4294967296))+(shrOf .u64 (shlOf .u64 lo_1 (v64 (x1))) 32)))-(v64 (q1_4*(shlOf .u64 y_2 (v64 (x1)))))))-(v64 ((v64 (Int.tdiv (v64 ((v64 ((v64 ((bitsOf .or .u64 (shlOf .u64 hi_0 (v64 (x1))) (shrOf .u64 lo_1 (v64 (64-(v64 (x1))))))*4294967296))+(shrOf .u64 (shlOf .u64 lo_1 (v64 (x1))) 32)))-(v64 (q1_4*(shlOf .u64 y_2 (v64 (x1))))))) (shrOf .u64 (shlOf .u64 y_2 (v64 (x1))) 32)))*(shrOf .u64 (shlOf .u64 y_2 (v64 (x1))) 32)))),v64 (Int.tdiv (v64 ((v64 ((v64 ((bitsOf .or .u64 (shlOf .u64 hi_0 (v64 (x1))) (shrOf .u64 lo_1 (v64 (64-(v64 (x1))))))*4294967296))+(shrOf .u64 (shlOf .u64 lo_1 (v64 (x1))) 32)))-(v64 (q1_4*(shlOf .u64 y_2 (v64 (x1))))))) (shrOf .u64 (shlOf .u64 y_2 (v64 (x1))) 32))) h8))
theorem Zae.p2_ok {y_2 x1 hi_0 lo_1 q1_2 rhat_3 st r c1_ J1} (h:Zae.p2 N c1_ y_2 x1 hi_0 lo_1 q1_2 rhat_3=some r) (hE:En Tryz.f225 g0 w0 (Zae.rs r) st R) (hc1 : ∀q1_2 rhat_3,c1_ (q1_2,rhat_3)=some r→At g0 w0 (Zae.p1.S y_2 x1 hi_0 lo_1 q1_2 rhat_3 st) J1):At g0 w0 (Zae.p2.S y_2 x1 hi_0 lo_1 q1_2 rhat_3 st) (XK Tryz.prog R [.c (csub Zae.B [1,1,1,1,1,1,1,1,1,1,1,1,1,1,0,0,0,1]),.h J1,.b 0,.c (csub Zae.B [1,1,1,1,1,1,1,1,1,1,1,1,1,1,1])]):=by
 unfold Zae.p2 at h
 refine iteB h (fun c11 h9=>?_) (fun c11 h10=>?_)
 ·exact aq fol [.r [],.r [],.r [],.c true,.s 1] [2,8,9,10,11,13,14,15] [] c11 (Zae.p3_ok h9 hE)
 ·exact an fol [.r [],.r [],.r [],.c false] [2,8,9,10,11,13,14,15,16] [] c11 (hc1 (v64 (q1_2-1)) (v64 (rhat_3+(shrOf .u64 (shlOf .u64 y_2 (v64 (x1))) 32))) h10)
theorem Zae.p1_ok {y_2 x1 hi_0 lo_1 q1_2 rhat_3 st r c1_ J1} (h:Zae.p1 N y_2 x1 hi_0 lo_1 c1_ (q1_2,rhat_3)=some r) (hE:En Tryz.f225 g0 w0 (Zae.rs r) st R) (hc1 : ∀q1_2 rhat_3,c1_ (q1_2,rhat_3)=some r→At g0 w0 (Zae.p1.S y_2 x1 hi_0 lo_1 q1_2 rhat_3 st) J1):At g0 w0 (Zae.p1.S y_2 x1 hi_0 lo_1 q1_2 rhat_3 st) (XK Tryz.prog R (.c (csub Zae.B [1,1,1,1,1,1,1,1,1,1,1,1,1,1,0,0,0]) :: .h J1 :: [.b 0,.c (csub Zae.B [1,1,1,1,1,1,1,1,1,1,1,1,1,1,1])])):=by
 unfold Zae.p1 at h
 refine iteB h (fun c9 h11=>?_) (fun c9 h12=>?_)
 ·exact aq fol [.r [(3,wF),(4,wF),(5,wF),(6,wF),(7,wF),(8,wF),(9,wF),(10,wF)],.c true,.s 4] [2,8,9,10,11,13,14,15,16] [] (aO c9 c9 c9 c9 c9 c9 c9 (aJ c9 c9 eT)) (Zae.p2_ok h11 hE hc1)
 ·refine iteB h12 (fun c10 h13=>?_) (fun c10 h14=>?_)
  ·exact aq fol [.r [(11,yF)],.c true,.s 4] [2,8,9,10,11,13,14,15,16] [] (aO c9 c9 c9 c9 c9 c9 c9 (aJ c9 c9 c10)) (Zae.p2_ok h13 hE hc1)
  ·exact aq fol [.r [(11,yF)],.c false,.s 1] [2,8,9,10,11,13,14,15] [] (aO c9 c9 c9 c9 c9 c9 c9 (aJ c9 c9 c10)) (Zae.p3_ok h14 hE)
theorem Zae.snd {hi_0 lo_1 y_2:Int} {r:Int×Int} (h:Zae N hi_0 lo_1 y_2=some r):SndQ Tryz.prog 225 [.one (L.int .u64 hi_0),.one (L.int .u64 lo_1),.one (L.int .u64 y_2)] (Zae.rs r):=fun st=>
 sO Zae.B Tryz.func225 fun g0 w0 R hE=>by
  unfold Zae at h
  let o1:List PS:=[.r [],.r [],.c false,.r [],.c false,.r []]
  refine iteB h (fun c1 h15=>?_) (fun c1 h16=>?_)
  ·cases h15
  ·refine iteB h16 (fun c2 h17=>?_) (fun c2 h18=>?_)
   ·cases h17
   ·refine iteB h18 (fun c3 h19=>?_) (fun c3 h20=>?_)
    ·obtain ⟨c4,h21⟩:=ZaS h19
     obtain rfl:=Zaa h21
     exact afd fol hE (o1 ++ [.c true,.d {ds:=[],hv:=0,Hs:=[]}]) [] 0 [] (aL c1 c2 c3 c4 c4)
    ·obtain ⟨x1,c5,h22⟩:=Zac h20
     obtain ⟨c6,c7,c8,h23⟩:=ck3 h22
     exact aq fol (o1 ++ [.c false,.r [(1,q1 [oI x1])],.r [],.r [],.r [],.r [],.r [],.r [],.r [],.r [],.r []]) [2,8,9,10,11,13,14,15,16] [] (aO c1 c2 c3 (Zbj.snd c5) c6 (leI 0 32) c6 (aK c7 c6 (leI 0 32) c8)) (At.loop N (At.loopN (fun y:Int×Int=>Zae.p1.S y_2 x1 hi_0 lo_1 y.1 y.2 st) (fun c J hc y h=>Zae.p1_ok (q1_2:=y.1) (rhat_3:=y.2) h hE (fun q1_2 rhat_3=>hc (q1_2,rhat_3))) N (v64 (Int.tdiv (bitsOf .or .u64 (shlOf .u64 hi_0 (v64 (x1))) (shrOf .u64 lo_1 (v64 (64-(v64 (x1)))))) (shrOf .u64 (shlOf .u64 y_2 (v64 (x1))) 32)),v64 ((bitsOf .or .u64 (shlOf .u64 hi_0 (v64 (x1))) (shrOf .u64 lo_1 (v64 (64-(v64 (x1))))))-(v64 ((v64 (Int.tdiv (bitsOf .or .u64 (shlOf .u64 hi_0 (v64 (x1))) (shrOf .u64 lo_1 (v64 (64-(v64 (x1)))))) (shrOf .u64 (shlOf .u64 y_2 (v64 (x1))) 32)))*(shrOf .u64 (shlOf .u64 y_2 (v64 (x1))) 32))))) h23))
noncomputable def ZbD.B:Code:=Tryz.f214.body.getD .skip
noncomputable def ZbD.rs (r:(List Int)×Int):List CV:=[.agg [L.arr .u64 4 r.1],.one (L.int .u64 r.2)]
noncomputable def ZbD.p1 (N:Nat) (by_1:Int) (c1_:(Int×Int×(List Int))→Option ((List Int)×Int)):(Int×Int×(List Int))→Option ((List Int)×Int):=fun (r_1,i_2,a_5)=>
 if (decide (i_2≥0))=true then
  chk (0≤i_2)<|
  chk (i_2<4)<|
  optE (Zae N r_1 (List.getD a_5 (Int.toNat i_2) 0) by_1) fun (x6,x7)=>
  c1_ (x7,w64 (i_2-1),List.set a_5 (Int.toNat i_2) x6)
 else
 some (a_5,r_1)
noncomputable def ZbD (N:Nat) (a_0_0:List Int) (by_1:Int):Option ((List Int)×Int):=
 if (by_1==0)=true then
  some (List.replicate 4 0,0)
 else
 loopN (ZbD.p1 N by_1) N (0,3,a_0_0)
noncomputable def ZbD.p1.S (by_1 r_1 i_2:Int) (a_5:List Int) (st:LL):S:=mkS 28 [(1,.one (.l (L.int .u64 by_1))),(2,sA 2),(4,sA 4),(6,.one (.l (L.int .u64 r_1))),(7,sI i_2)] [(2,.cells [L.arr .u64 4 a_5]),(4,.cells [L.arr .u64 4 (List.replicate 4 0)])] st
theorem ZbD.p1_ok {by_1 r_1 i_2 a_5 st r c1_ J1} (h:ZbD.p1 N by_1 c1_ (r_1,i_2,a_5)=some r) (hE:En Tryz.f214 g0 w0 (ZbD.rs r) st R) (hc1 : ∀r_1 i_2 a_5,c1_ (r_1,i_2,a_5)=some r→At g0 w0 (ZbD.p1.S by_1 r_1 i_2 a_5 st) J1):At g0 w0 (ZbD.p1.S by_1 r_1 i_2 a_5 st) (XK Tryz.prog R (.c (csub ZbD.B [1,1,1,0,1,0,0]) :: .h J1 :: [.b 0,.c (csub ZbD.B [1,1,1,1])])):=by
 unfold ZbD.p1 at h
 refine iteB h (fun c6 h1=>?_) (fun c6 h2=>?_)
 ·obtain ⟨c7,c8,h3⟩:=ck2 h1
  obtain ⟨⟨x6,x7⟩,c9,h4⟩:=Zac h3
  exact an fol [.r [],.c true,.r [(6,q1 [.one (L.int .u64 x6),.one (L.int .u64 x7)])],.r []] [1,2,4,6,7] [2,4] (aM c6 c7 c8 (Zae.snd c9) c7 c8) (hc1 x7 (w64 (i_2-1)) (List.set a_5 (Int.toNat i_2) x6) h4)
 ·obtain rfl:=Zaa h2
  exact af fol hE [.r [],.c false,.r []] [] 0 [] c6
theorem ZbD.snd {a_0_0:List Int} {by_1:Int} {r:(List Int)×Int} (h:ZbD N a_0_0 by_1=some r):SndQ Tryz.prog 214 [.agg [L.arr .u64 4 a_0_0],.one (L.int .u64 by_1)] (ZbD.rs r):=fun st=>
 sO ZbD.B Tryz.func214 fun g0 w0 R hE=>by
  unfold ZbD at h
  refine iteB h (fun c1 h5=>?_) (fun c1 h6=>?_)
  ·obtain rfl:=Zaa h5
   exact af fol hE [.r [],.r [],.c true,.r []] [] 0 [] c1
  ·exact aq fol [.r [],.r [],.c false,.r [],.r []] [1,2,4,6,7] [2,4] c1 (At.loop N (At.loopN (fun y:Int×Int×(List Int)=>ZbD.p1.S by_1 y.1 y.2.1 y.2.2 st) (fun c J hc y h=>ZbD.p1_ok (r_1:=y.1) (i_2:=y.2.1) (a_5:=y.2.2) h hE (fun r_1 i_2 a_5=>hc (r_1,i_2,a_5))) N (0,3,a_0_0) h6))
noncomputable def ZbT.B:Code:=Tryz.f226.body.getD .skip
noncomputable def ZbT.rs (r:Int×Int):List CV:=[.one (L.int .u64 r.1),.one (L.int .u64 r.2)]
noncomputable def ZbT (N:Nat) (x_0 y_1:Int):Option (Int×Int):=
 some (v64 ((v64 ((v64 ((shrOf .u64 x_0 32)*(shrOf .u64 y_1 32)))+(shrOf .u64 (v64 ((v64 ((shrOf .u64 x_0 32)*(bitsOf .and .u64 y_1 4294967295)))+(shrOf .u64 (v64 ((bitsOf .and .u64 x_0 4294967295)*(bitsOf .and .u64 y_1 4294967295))) 32))) 32)))+(shrOf .u64 (v64 ((bitsOf .and .u64 (v64 ((v64 ((shrOf .u64 x_0 32)*(bitsOf .and .u64 y_1 4294967295)))+(shrOf .u64 (v64 ((bitsOf .and .u64 x_0 4294967295)*(bitsOf .and .u64 y_1 4294967295))) 32))) 4294967295)+(v64 ((bitsOf .and .u64 x_0 4294967295)*(shrOf .u64 y_1 32))))) 32)),v64 (x_0*y_1))
theorem ZbT.snd {x_0 y_1:Int} {r:Int×Int} (h:ZbT N x_0 y_1=some r):SndQ Tryz.prog 226 [.one (L.int .u64 x_0),.one (L.int .u64 y_1)] (ZbT.rs r):=fun st=>
 sO ZbT.B Tryz.func226 fun g0 w0 R hE=>by
  unfold ZbT at h
  obtain rfl:=Zaa h
  exact af fol hE [.r [],.r [],.r [],.r [],.r [],.r [],.r [],.r [],.r [],.r [],.r [],.r []] [] 0 [] (aL (leI 0 32) (leI 0 32) (leI 0 32) (leI 0 32) (leI 0 32))
noncomputable def Zbq.B:Code:=Tryz.f215.body.getD .skip
noncomputable def Zbq.rs (r:(List Int)×Bool):List CV:=[.agg [L.arr .u64 4 r.1],oB r.2]
noncomputable def Zbq.p1 (N:Nat) (by_1:Int) (c1_:(Int×Int×(List Int))→Option ((List Int)×Bool)):(Int×Int×(List Int))→Option ((List Int)×Bool):=fun (c_1,v2,a_7)=>
 if (decide (v2<4))=true then
  chk (0≤v2)<|
  optE (ZbT N (List.getD a_7 (Int.toNat v2) 0) by_1) fun (x8,x9)=>
  optE (ZcI N x9 c_1 0) fun (x10,x11)=>
  c1_ (v64 (x8+x11),w64 (v2+1),List.set a_7 (Int.toNat v2) x10)
 else
 some (a_7,c_1 != 0)
noncomputable def Zbq (N:Nat) (a_0_0:List Int) (by_1:Int):Option ((List Int)×Bool):=
 loopN (Zbq.p1 N by_1) N (0,0,a_0_0)
noncomputable def Zbq.p1.S (by_1 c_1 v2:Int) (a_7:List Int) (st:LL):S:=mkS 37 [(1,.one (.l (L.int .u64 by_1))),(2,sA 2),(4,sA 4),(6,.one (.l (L.int .u64 c_1))),(11,sI v2)] [(2,.cells [L.arr .u64 4 a_7]),(4,.cells [L.arr .u64 4 (List.replicate 4 0)])] st
theorem Zbq.p1_ok {by_1 c_1 v2 a_7 st r c1_ J1} (h:Zbq.p1 N by_1 c1_ (c_1,v2,a_7)=some r) (hE:En Tryz.f215 g0 w0 (Zbq.rs r) st R) (hc1 : ∀c_1 v2 a_7,c1_ (c_1,v2,a_7)=some r→At g0 w0 (Zbq.p1.S by_1 c_1 v2 a_7 st) J1):At g0 w0 (Zbq.p1.S by_1 c_1 v2 a_7 st) (XK Tryz.prog R (.c (csub Zbq.B [1,1,0,1,0,0]) :: .h J1 :: [.b 0,.c (csub Zbq.B [1,1,1])])):=by
 unfold Zbq.p1 at h
 refine iteB h (fun c5 h1=>?_) (fun c5 h2=>?_)
 ·obtain ⟨c6,h3⟩:=ZaS h1
  obtain ⟨⟨x8,x9⟩,c7,h4⟩:=Zac h3
  obtain ⟨⟨x10,x11⟩,c8,h5⟩:=Zac h4
  exact an fol [.r [],.c true,.r [],.r [(4,q1 [.one (L.int .u64 x8),.one (L.int .u64 x9)])],.r [],.r [(3,{rs:=[.one (L.int .u64 x10),.one (L.int .u64 x11)],m:=4})],.r [],.r []] [1,2,4,6,11] [2,4] (aN c5 c6 (oD c5) (ZbT.snd c7) (ZcI.snd c8) c6 (oD c5)) (hc1 (v64 (x8+x11)) (w64 (v2+1)) (List.set a_7 (Int.toNat v2) x10) h5)
 ·obtain rfl:=Zaa h2
  exact af fol hE [.r [],.c false,.r []] [] 0 [] c5
theorem Zbq.snd {a_0_0:List Int} {by_1:Int} {r:(List Int)×Bool} (h:Zbq N a_0_0 by_1=some r):SndQ Tryz.prog 215 [.agg [L.arr .u64 4 a_0_0],.one (L.int .u64 by_1)] (Zbq.rs r):=fun st=>
 sO Zbq.B Tryz.func215 fun g0 w0 R hE=>by
  unfold Zbq at h
  exact aq fol [.r [],.r [],.r []] [1,2,4,6,11] [2,4] trivial (At.loop N (At.loopN (fun y:Int×Int×(List Int)=>Zbq.p1.S by_1 y.1 y.2.1 y.2.2 st) (fun c J hc y h=>Zbq.p1_ok (c_1:=y.1) (v2:=y.2.1) (a_7:=y.2.2) h hE (fun c_1 v2 a_7=>hc (c_1,v2,a_7))) N (0,0,a_0_0) h))
noncomputable def Zbm.B:Code:=Tryz.f174.body.getD .skip
noncomputable def Zbm.rs (r:(List Int)×Bool):List CV:=[.agg [L.arr .u64 4 r.1],oB r.2]
noncomputable def Zbm.p1 (N:Nat) (b_1_0:List Int) (c1_:(Int×Int×(List Int))→Option ((List Int)×Bool)):(Int×Int×(List Int))→Option ((List Int)×Bool):=fun (c_1,v2,a_5)=>
 if (decide (v2<4))=true then
  chk (0≤v2)<|
  optE (ZcI N (List.getD a_5 (Int.toNat v2) 0) (List.getD b_1_0 (Int.toNat v2) 0) c_1) fun (x6,x7)=>
  c1_ (x7,w64 (v2+1),List.set a_5 (Int.toNat v2) x6)
 else
 some (a_5,c_1 != 0)
noncomputable def Zbm (N:Nat) (a_0_0 b_1_0:List Int):Option ((List Int)×Bool):=
 loopN (Zbm.p1 N b_1_0) N (0,0,a_0_0)
noncomputable def Zbm.p1.S (c_1 v2:Int) (a_5 b_1_0:List Int) (st:LL):S:=mkS 28 [(2,sA 2),(3,sA 3),(4,sA 4),(6,.one (.l (L.int .u64 c_1))),(8,sI v2)] [(2,.cells [L.arr .u64 4 a_5]),(3,.cells [L.arr .u64 4 b_1_0]),(4,.cells [L.arr .u64 4 (List.replicate 4 0)])] st
theorem Zbm.p1_ok {c_1 v2 a_5 b_1_0 st r c1_ J1} (h:Zbm.p1 N b_1_0 c1_ (c_1,v2,a_5)=some r) (hE:En Tryz.f174 g0 w0 (Zbm.rs r) st R) (hc1 : ∀c_1 v2 a_5,c1_ (c_1,v2,a_5)=some r→At g0 w0 (Zbm.p1.S c_1 v2 a_5 b_1_0 st) J1):At g0 w0 (Zbm.p1.S c_1 v2 a_5 b_1_0 st) (XK Tryz.prog R (.c (csub Zbm.B [1,1,0,1,0,0]) :: .h J1 :: [.b 0,.c (csub Zbm.B [1,1,1])])):=by
 unfold Zbm.p1 at h
 refine iteB h (fun c4 h1=>?_) (fun c4 h2=>?_)
 ·obtain ⟨c5,h3⟩:=ZaS h1
  obtain ⟨⟨x6,x7⟩,c6,h4⟩:=Zac h3
  exact and_ fol [.r [],.c true,.r [],.d {ds:=[(8,{rs:=[.one (L.int .u64 x6),.one (L.int .u64 x7)],m:=4})],hv:=8192,Hs:=[8192]},.r []] [2,3,4,6,8] [2,3,4] (aO c4 c5 (oD c4) c5 (oD c4) (ZcI.snd c6) c5 (oD c4)) (hc1 x7 (w64 (v2+1)) (List.set a_5 (Int.toNat v2) x6) h4)
 ·obtain rfl:=Zaa h2
  exact af fol hE [.r [],.c false,.r []] [] 0 [] c4
theorem Zbm.snd {a_0_0 b_1_0:List Int} {r:(List Int)×Bool} (h:Zbm N a_0_0 b_1_0=some r):SndQ Tryz.prog 174 [.agg [L.arr .u64 4 a_0_0],.agg [L.arr .u64 4 b_1_0]] (Zbm.rs r):=fun st=>
 sO Zbm.B Tryz.func174 fun g0 w0 R hE=>by
  unfold Zbm at h
  exact aq fol [.r [],.r [],.r []] [2,3,4,6,8] [2,3,4] trivial (At.loop N (At.loopN (fun y:Int×Int×(List Int)=>Zbm.p1.S y.1 y.2.1 y.2.2 b_1_0 st) (fun c J hc y h=>Zbm.p1_ok (c_1:=y.1) (v2:=y.2.1) (a_5:=y.2.2) h hE (fun c_1 v2 a_5=>hc (c_1,v2,a_5))) N (0,0,a_0_0) h))
noncomputable def ZbJ.B:Code:=Tryz.f206.body.getD .skip
noncomputable def ZbJ.rs (r:Int):List CV:=[oI r]
noncomputable def ZbJ.p1 (N:Nat) (a_0_0:List Int) (c1_:Int→Option Int):Int→Option Int:=fun i_1=>
 if (decide (i_1≥0))=true then
  chk (0≤i_1)<|
  chk (i_1<4)<|
  if ((List.getD a_0_0 (Int.toNat i_1) 0) != 0)=true then
   optE (Zap N (List.getD a_0_0 (Int.toNat i_1) 0)) fun x2=>
   some (w64 ((w64 (64*i_1))+x2))
  else
  c1_ (w64 (i_1-1))
 else
 some 0
noncomputable def ZbJ (N:Nat) (a_0_0:List Int):Option Int:=
 loopN (ZbJ.p1 N a_0_0) N 3
noncomputable def ZbJ.p1.S (i_1:Int) (a_0_0:List Int) (st:LL):S:=mkS 19 [(1,sA 1),(3,sI i_1)] [(1,.cells [L.arr .u64 4 a_0_0])] st
theorem ZbJ.p1_ok {i_1 a_0_0 st r c1_ J1} (h:ZbJ.p1 N a_0_0 c1_ i_1=some r) (hE:En Tryz.f206 g0 w0 (ZbJ.rs r) st R) (hc1 : ∀i_1,c1_ i_1=some r→At g0 w0 (ZbJ.p1.S i_1 a_0_0 st) J1):At g0 w0 (ZbJ.p1.S i_1 a_0_0 st) (XK Tryz.prog R (.c (csub ZbJ.B [1,0,1,0,0]) :: .h J1 :: [.b 0,.c (csub ZbJ.B [1,1])])):=by
 unfold ZbJ.p1 at h
 refine iteB h (fun c1 h1=>?_) (fun c1 h2=>?_)
 ·obtain ⟨c2,c3,h3⟩:=ck2 h1
  refine iteB h3 (fun c4 h4=>?_) (fun c4 h5=>?_)
  ·obtain ⟨x2,c5,h6⟩:=Zac h4
   obtain rfl:=Zaa h6
   exact af fol hE [.r [],.c true,.r [],.c true,.r [(5,q1 [oI x2])]] [] 0 [] (aN c1 c2 c3 c4 c2 c3 (Zap.snd c5))
  ·exact an fol [.r [],.c true,.r [],.c false,.r []] [1,3] [1] (aK c1 c2 c3 c4) (hc1 (w64 (i_1-1)) h5)
 ·obtain rfl:=Zaa h2
  exact af fol hE [.r [],.c false,.r []] [] 0 [] c1
theorem ZbJ.snd {a_0_0:List Int} {r:Int} (h:ZbJ N a_0_0=some r):SndQ Tryz.prog 206 [.agg [L.arr .u64 4 a_0_0]] (ZbJ.rs r):=fun st=>
 sO ZbJ.B Tryz.func206 fun g0 w0 R hE=>by
  unfold ZbJ at h
  exact aq fol [.r [],.r []] [1,3] [1] trivial (At.loop N (At.loopN (fun y:Int=>ZbJ.p1.S y a_0_0 st) (fun c J hc y h=>ZbJ.p1_ok h hE (fun i_1=>hc i_1)) N 3 h))
noncomputable def ZaA.B:Code:=Tryz.f216.body.getD .skip
noncomputable def ZaA.rs (r:Int):List CV:=[oI r]
noncomputable def ZaA.p2 (N:Nat) (size_5 word_6:Int):Option Int:=
 some (bitsOf .or .i64 (shlOf .i64 size_5 24) word_6)
noncomputable def ZaA.p1 (N:Nat) (x1 word_4:Int):Option Int:=
 if ((bitsOf .and .i64 word_4 8388608) != 0)=true then
  ZaA.p2 N (w64 ((w64 (Int.tdiv (w64 (x1+7)) 8))+1)) (shrOf .i64 word_4 8)
 else
 ZaA.p2 N (w64 (Int.tdiv (w64 (x1+7)) 8)) word_4
noncomputable def ZaA (N:Nat) (n_0_0:List Int):Option Int:=
 optE (ZbJ N n_0_0) fun x1=>
 if (decide ((w64 (Int.tdiv (w64 (x1+7)) 8))≤3))=true then
  optE (Zbh N n_0_0 (w64 (8*(w64 (3-(w64 (Int.tdiv (w64 (x1+7)) 8))))))) fun x2=>
  ZaA.p1 N x1 (w64 (List.getD x2 0 0))
 else
 optE (ZaP N n_0_0 (w64 (8*(w64 ((w64 (Int.tdiv (w64 (x1+7)) 8))-3))))) fun x3=>
 ZaA.p1 N x1 (w64 (List.getD x3 0 0))
noncomputable def ZaA.p2.S (size_5 word_6:Int) (st:LL):S:=mkS 36 [(3,sI size_5),(4,sI word_6)] [] st
noncomputable def ZaA.p1.S (x1 word_4:Int) (st:LL):S:=mkS 36 [(3,sI (w64 (Int.tdiv (w64 (x1+7)) 8))),(4,sI word_4)] [] st
theorem ZaA.p2_ok {size_5 word_6 st r} (h:ZaA.p2 N size_5 word_6=some r) (hE:En Tryz.f216 g0 w0 (ZaA.rs r) st R):At g0 w0 (ZaA.p2.S size_5 word_6 st) (XK Tryz.prog R [.c (csub ZaA.B [1,1,1,1,1])]):=by
 unfold ZaA.p2 at h
 obtain rfl:=Zaa h
 exact af fol hE [.r []] [] 0 [] (leI 0 24)
theorem ZaA.p1_ok {x1 word_4 st r} (h:ZaA.p1 N x1 word_4=some r) (hE:En Tryz.f216 g0 w0 (ZaA.rs r) st R):At g0 w0 (ZaA.p1.S x1 word_4 st) (XK Tryz.prog R [.c (csub ZaA.B [1,1,1,1])]):=by
 unfold ZaA.p1 at h
 refine iteB h (fun c5 h1=>?_) (fun c5 h2=>?_)
 ·exact aq fol [.r [],.c true,.r [],.r [],.s 1] [3,4] [] (aI c5 (leI 0 8)) (ZaA.p2_ok h1 hE)
 ·exact aq fol [.r [],.c false,.s 1] [3,4] [] c5 (ZaA.p2_ok h2 hE)
theorem ZaA.snd {n_0_0:List Int} {r:Int} (h:ZaA N n_0_0=some r):SndQ Tryz.prog 216 [.agg [L.arr .u64 4 n_0_0]] (ZaA.rs r):=fun st=>
 sO ZaA.B Tryz.func216 fun g0 w0 R hE=>by
  unfold ZaA at h
  obtain ⟨x1,c1,h3⟩:=Zac h
  let o1:List PS:=[.r [],.r [(1,q1 [oI x1])],.r [],.r []]
  refine iteB h3 (fun c2 h4=>?_) (fun c2 h5=>?_)
  ·obtain ⟨x2,c3,h6⟩:=Zac h4
   exact aq fol (o1 ++ [.c true,.r [(4,q1 [.agg [L.arr .u64 4 x2]])],.s 1]) [3,4] [] (aM (ZbJ.snd c1) (neI 8) c2 (Zbh.snd c3) (leI 0 0) (ltI 0 4)) (ZaA.p1_ok h6 hE)
  ·obtain ⟨x3,c4,h7⟩:=Zac h5
   exact aq fol (o1 ++ [.c false,.r [(4,q1 [.agg [L.arr .u64 4 x3]])],.s 1]) [3,4] [] (aM (ZbJ.snd c1) (neI 8) c2 (ZaP.snd c4) (leI 0 0) (ltI 0 4)) (ZaA.p1_ok h7 hE)
noncomputable def Zbf.B:Code:=Tryz.f189.body.getD .skip
noncomputable def Zbf.rs (r:Int):List CV:=[oI r]
noncomputable def Zbf.p1 (N:Nat) (n_17:List Int):Option Int:=
 optE (ZaA N n_17) fun x18=>
 some x18
noncomputable def Zbf (N:Nat) (p_0:Zan) (bits_1 from_2 to_3:Int):Option Int:=
 optE (ZbG N bits_1 p_0.Limit) fun (x1,x2)=>
 optE (ZcV N p_0) fun x3=>
 if (!x3)=true then
  some p_0.Limit
 else
 if (!x2)=true then
  some p_0.Limit
 else
 optE (Zdp N p_0 from_2 to_3) fun x4=>
 optE (ZbD N x1 (v64 (w64 (p_0.Interval*p_0.Spacing)))) fun (x5,x6)=>
 optE (Zbq N x5 (v64 (x4))) fun (x7,x8)=>
 chk ((v64 (w64 (p_0.Interval*p_0.Spacing)))≠0)<|
 optE (Zco N (v64 (Int.tdiv (v64 (x6*(v64 (x4)))) (v64 (w64 (p_0.Interval*p_0.Spacing)))))) fun x9=>
 optE (Zbm N x7 x9) fun (x10,x11)=>
 optE (ZbG N p_0.Limit p_0.Limit) fun (x12,x13)=>
 if x8=true then
  some p_0.Limit
 else
 if x11=true then
  some p_0.Limit
 else
 optE (ZbW N x12 x10) fun x14=>
 if x14=true then
  some p_0.Limit
 else
 optE (ZbY N x10) fun x15=>
 if x15=true then
  optE (Zco N 1) fun x16=>
  Zbf.p1 N x16
 else
 Zbf.p1 N x10
noncomputable def Zbf.p1.S (n_17:List Int) (st:LL):S:=mkS 94 [(15,sA 15)] [(15,.cells [L.arr .u64 4 n_17])] st
theorem Zbf.p1_ok {n_17 st r} (h:Zbf.p1 N n_17=some r) (hE:En Tryz.f189 g0 w0 (Zbf.rs r) st R):At g0 w0 (Zbf.p1.S n_17 st) (XK Tryz.prog R [.c (csub Zbf.B [1,1,1,1,1,1,1,1,1,1,1])]):=by
 unfold Zbf.p1 at h
 obtain ⟨x18,c19,h1⟩:=Zac h
 obtain rfl:=Zaa h1
 exact af fol hE [.r [(1,q1 [oI x18])]] [] 0 [] (ZaA.snd c19)
theorem Zbf.snd {p_0:Zan} {bits_1 from_2 to_3:Int} {r:Int} (h:Zbf N p_0 bits_1 from_2 to_3=some r):SndQ Tryz.prog 189 [.agg p_0.ls,oI bits_1,oI from_2,oI to_3] (Zbf.rs r):=fun st=>
 sO Zbf.B Tryz.func189 fun g0 w0 R hE=>by
  unfold Zbf at h
  obtain ⟨⟨x1,x2⟩,c1,h2⟩:=Zac h
  obtain ⟨x3,c2,h3⟩:=Zac h2
  let o1:List PS:=[.r [],.r [(3,q1 [.agg [L.arr .u64 4 x1],oB x2])]]
  have t1 {Q:Prop} (q:Q):=aJ (ZbG.snd c1) (ZcV.snd c2) q
  refine iteB h3 (fun c3 h4=>?_) (fun c3 h5=>?_)
  ·obtain rfl:=Zaa h4
   exact af fol hE (o1 ++ [.r [(1,q1 [oB x3]),(4,wF),(5,wF)],.c true,.r []]) [] 0 [] (t1 (aK (not_false (Zbs c3)) (not_false (Zbs c3)) (not_false (Zbs c3)) eT))
  ·let o2:List PS:=o1 ++ [.r [(1,q1 [oB x3]),(6,yF)]]
   have t2 {Q:Prop} (q:Q):=t1 (aK (not_true (Zbn c3)) (not_true (Zbn c3)) (not_true (Zbn c3)) q)
   refine iteB h5 (fun c4 h6=>?_) (fun c4 h7=>?_)
   ·obtain rfl:=Zaa h6
    exact af fol hE (o2 ++ [.c true,.r []]) [] 0 [] (t2 c4)
   ·obtain ⟨x4,c5,h8⟩:=Zac h7
    obtain ⟨⟨x5,x6⟩,c6,h9⟩:=Zac h8
    obtain ⟨⟨x7,x8⟩,c7,h10⟩:=Zac h9
    obtain ⟨c8,h11⟩:=ZaS h10
    obtain ⟨x9,c9,h12⟩:=Zac h11
    obtain ⟨⟨x10,x11⟩,c10,h13⟩:=Zac h12
    obtain ⟨⟨x12,x13⟩,c11,h14⟩:=Zac h13
    let o3:List PS:=o2 ++ [.c false,.r [],.r [(3,q1 [oI x4])],.r [(2,q1 [.agg [L.arr .u64 4 x5],.one (L.int .u64 x6)])],.r [(2,q1 [.agg [L.arr .u64 4 x7],oB x8])],.d {ds:=[(6,q1 [.agg [L.arr .u64 4 x9]]),(7,q1 [.agg [L.arr .u64 4 x10],oB x11])],hv:=2048,Hs:=[2048]},.r [(4,q1 [.agg [L.arr .u64 4 x12],oB x13])]]
    have t3 {Q:Prop} (q:Q):=t2 (aO c4 (Zdp.snd c5) (ZbD.snd c6) (Zbq.snd c7) c8 (Zco.snd c9) (Zbm.snd c10) (aI (ZbG.snd c11) q))
    refine iteB h14 (fun c12 h15=>?_) (fun c12 h16=>?_)
    ·obtain rfl:=Zaa h15
     exact afd fol hE (o3 ++ [.r [(2,wF),(5,wF),(6,wF),(7,wF)],.c true,.r []]) [] 0 [] (t3 (aN c12 c12 eT eT eT eT eT))
    ·refine iteB h16 (fun c13 h17=>?_) (fun c13 h18=>?_)
     ·obtain rfl:=Zaa h17
      exact afd fol hE (o3 ++ [.r [(3,yF),(5,wF),(6,wF),(7,wF)],.c true,.r []]) [] 0 [] (t3 (aN c12 c12 c13 c13 c13 c13 eT))
     ·obtain ⟨x14,c14,h19⟩:=Zac h18
      let o4:List PS:=o3 ++ [.r [(3,yF),(7,q1 [oB x14]),(8,yF)]]
      have t4 {Q:Prop} (q:Q):=t3 (aO c12 c12 c13 c13 c13 (ZbW.snd c14) c13 q)
      refine iteB h19 (fun c15 h20=>?_) (fun c15 h21=>?_)
      ·obtain rfl:=Zaa h20
       exact afd fol hE (o4 ++ [.c true,.r []]) [] 0 [] (t4 c15)
      ·obtain ⟨x15,c16,h22⟩:=Zac h21
       let o5:List PS:=o4 ++ [.c false,.r [(1,q1 [oB x15])]]
       refine iteB h22 (fun c17 h23=>?_) (fun c17 h24=>?_)
       ·obtain ⟨x16,c18,h25⟩:=Zac h23
        exact aqd fol (o5 ++ [.c true,.r [(0,q1 [.agg [L.arr .u64 4 x16]])],.s 1]) [15] [15] (t4 (aK c15 (ZbY.snd c16) c17 (Zco.snd c18))) (Zbf.p1_ok h25 hE)
       ·exact aqd fol (o5 ++ [.c false,.s 1]) [15] [15] (t4 (aJ c15 (ZbY.snd c16) c17)) (Zbf.p1_ok h24 hE)
noncomputable def Zdq.B:Code:=Tryz.f149.body.getD .skip
noncomputable def Zdq.rs (r:Int):List CV:=[oI r]
noncomputable def Zdq (N:Nat) (p_0:Zan) (at_1:ZaL) (time_2:Int):Option Int:=
 if (decide (at_1.Height≤0))=true then
  some p_0.Limit
 else
 optE (Zcj N p_0 at_1.Height) fun x1=>
 if x1=true then
  optE (Zbf N p_0 at_1.Bits at_1.First at_1.Time) fun x2=>
  some x2
 else
 if (!p_0.Easy)=true then
  some at_1.Bits
 else
 if (decide ((w64 (time_2-at_1.Time))>(w64 (2*p_0.Spacing))))=true then
  some p_0.Limit
 else
 some at_1.Hard
theorem Zdq.snd {p_0:Zan} {at_1:ZaL} {time_2:Int} {r:Int} (h:Zdq N p_0 at_1 time_2=some r):SndQ Tryz.prog 149 [.agg p_0.ls,.agg at_1.ls,oI time_2] (Zdq.rs r):=fun st=>
 sO Zdq.B Tryz.func149 fun g0 w0 R hE=>by
  unfold Zdq at h
  refine iteB h (fun c1 h1=>?_) (fun c1 h2=>?_)
  ·obtain rfl:=Zaa h1
   exact af fol hE [.r [],.r [],.c true,.r []] [] 0 [] c1
  ·obtain ⟨x1,c2,h3⟩:=Zac h2
   let o1:List PS:=[.r [],.r [],.c false,.r [(3,q1 [oB x1])]]
   have t1 {Q:Prop} (q:Q):=aJ c1 (Zcj.snd c2) q
   refine iteB h3 (fun c3 h4=>?_) (fun c3 h5=>?_)
   ·obtain ⟨x2,c4,h6⟩:=Zac h4
    obtain rfl:=Zaa h6
    exact af fol hE (o1 ++ [.c true,.r [(7,q1 [oI x2])]]) [] 0 [] (t1 (aI c3 (Zbf.snd c4)))
   ·refine iteB h5 (fun c5 h7=>?_) (fun c5 h8=>?_)
    ·obtain rfl:=Zaa h7
     exact af fol hE (o1 ++ [.c false,.r [],.c true,.r []]) [] 0 [] (t1 (aI c3 c5))
    ·refine iteB h8 (fun c6 h9=>?_) (fun c6 h10=>?_)
     ·obtain rfl:=Zaa h9
      exact af fol hE (o1 ++ [.c false,.r [],.c false,.r [],.c true,.r []]) [] 0 [] (t1 (aJ c3 c5 c6))
     ·obtain rfl:=Zaa h10
      exact af fol hE (o1 ++ [.c false,.r [],.c false,.r [],.c false,.r []]) [] 0 [] (t1 (aJ c3 c5 c6))
noncomputable def ZaZ.B:Code:=Tryz.f217.body.getD .skip
noncomputable def ZaZ.rs (r:(List Int)):List CV:=[.agg [L.arr .u64 4 r]]
noncomputable def ZaZ.p1 (N:Nat) (h_0_0:List Int) (c1_:(Int×(List Int))→Option (List Int)):(Int×(List Int))→Option (List Int):=fun (v1,out_2)=>
 if (decide (v1<32))=true then
  chk (0≤v1)<|
  chk (0≤(w64 (Int.tdiv v1 8)))<|
  chk ((w64 (Int.tdiv v1 8))<4)<|
  chk (0≤(w64 (8*(Int.tmod v1 8))))<|
  c1_ (w64 (v1+1),List.set out_2 (Int.toNat (w64 (Int.tdiv v1 8))) (bitsOf .or .u64 (List.getD out_2 (Int.toNat (w64 (Int.tdiv v1 8))) 0) (shlOf .u64 (v64 (List.getD h_0_0 (Int.toNat v1) 0)) (w64 (8*(Int.tmod v1 8))))))
 else
 some out_2
noncomputable def ZaZ (N:Nat) (h_0_0:List Int):Option (List Int):=
 loopN (ZaZ.p1 N h_0_0) N (0,List.replicate 4 0)
noncomputable def ZaZ.p1.S (h_0_0:List Int) (v1:Int) (out_2:List Int) (st:LL):S:=mkS 25 [(2,sA 2),(3,sA 3),(6,.agg [.l (L.arr .u8 32 h_0_0)]),(7,sI v1)] [(2,.cells [L.arr .u64 4 (List.replicate 4 0)]),(3,.cells [L.arr .u64 4 out_2])] st
theorem ZaZ.p1_ok {h_0_0 v1 out_2 st r c1_ J1} (h:ZaZ.p1 N h_0_0 c1_ (v1,out_2)=some r) (hE:En Tryz.f217 g0 w0 (ZaZ.rs r) st R) (hc1 : ∀v1 out_2,c1_ (v1,out_2)=some r→At g0 w0 (ZaZ.p1.S h_0_0 v1 out_2 st) J1):At g0 w0 (ZaZ.p1.S h_0_0 v1 out_2 st) (XK Tryz.prog R (.c (csub ZaZ.B [1,1,0,1,0,0]) :: .h J1 :: [.b 0,.c (csub ZaZ.B [1,1,1])])):=by
 unfold ZaZ.p1 at h
 refine iteB h (fun c6 h1=>?_) (fun c6 h2=>?_)
 ·obtain ⟨c7,c8,c9,c10,h3⟩:=ck4 h1
  exact and_ fol [.r [],.c true,.r [],.d {ds:=[],hv:=4096,Hs:=[4096]},.r []] [2,3,6,7] [2,3] (aO c6 c7 (oD c6) (neI 8) c8 c9 (neI 8) (aJ c10 c8 c9)) (hc1 (w64 (v1+1)) (List.set out_2 (Int.toNat (w64 (Int.tdiv v1 8))) (bitsOf .or .u64 (List.getD out_2 (Int.toNat (w64 (Int.tdiv v1 8))) 0) (shlOf .u64 (v64 (List.getD h_0_0 (Int.toNat v1) 0)) (w64 (8*(Int.tmod v1 8)))))) h3)
 ·obtain rfl:=Zaa h2
  exact af fol hE [.r [],.c false,.r []] [] 0 [] c6
theorem ZaZ.snd {h_0_0:List Int} {r:(List Int)} (h:ZaZ N h_0_0=some r):SndQ Tryz.prog 217 [.agg [L.arr .u8 32 h_0_0]] (ZaZ.rs r):=fun st=>
 sO ZaZ.B Tryz.func217 fun g0 w0 R hE=>by
  unfold ZaZ at h
  exact aq fol [.r [],.r [],.r []] [2,3,6,7] [2,3] trivial (At.loop N (At.loopN (fun y:Int×(List Int)=>ZaZ.p1.S h_0_0 y.1 y.2 st) (fun c J hc y h=>ZaZ.p1_ok (v1:=y.1) (out_2:=y.2) h hE (fun v1 out_2=>hc (v1,out_2))) N (0,List.replicate 4 0) h))
noncomputable def Zcp.B:Code:=Tryz.f190.body.getD .skip
noncomputable def Zcp.rs (r:Bool):List CV:=[oB r]
noncomputable def Zcp (N:Nat) (h_0_0 target_1_0:List Int):Option Bool:=
 optE (ZaZ N h_0_0) fun x1=>
 optE (ZbW N target_1_0 x1) fun x2=>
 some (!x2)
theorem Zcp.snd {h_0_0 target_1_0:List Int} {r:Bool} (h:Zcp N h_0_0 target_1_0=some r):SndQ Tryz.prog 190 [.agg [L.arr .u8 32 h_0_0],.agg [L.arr .u64 4 target_1_0]] (Zcp.rs r):=fun st=>
 sO Zcp.B Tryz.func190 fun g0 w0 R hE=>by
  unfold Zcp at h
  obtain ⟨x1,c1,h1⟩:=Zac h
  obtain ⟨x2,c2,h2⟩:=Zac h1
  obtain rfl:=Zaa h2
  exact afd fol hE [.r [],.d {ds:=[(2,q1 [.agg [L.arr .u64 4 x1]]),(3,q1 [oB x2])],hv:=0,Hs:=[]}] [] 0 [] (aI (ZaZ.snd c1) (ZbW.snd c2))
noncomputable def ZcL.B:Code:=Tryz.f150.body.getD .skip
noncomputable def ZcL.rs (r:Int):List CV:=[oI r]
noncomputable def ZcL (N:Nat) (p_0:Zan) (h_1:Zah):Option Int:=
 optE (ZbP N h_1) fun x1=>
 if (!x1)=true then
  some 1
 else
 optE (ZbG N h_1.Bits p_0.Limit) fun (x2,x3)=>
 if (!x3)=true then
  some 4
 else
 optE (ZcC N h_1) fun x4=>
 optE (Zcp N x4 x2) fun x5=>
 if (!x5)=true then
  some 4
 else
 some 0
theorem ZcL.snd {p_0:Zan} {h_1:Zah} {r:Int} (h:ZcL N p_0 h_1=some r):SndQ Tryz.prog 150 [.agg p_0.ls,.agg h_1.ls] (ZcL.rs r):=fun st=>
 sO ZcL.B Tryz.func150 fun g0 w0 R hE=>by
  unfold ZcL at h
  obtain ⟨x1,c1,h1⟩:=Zac h
  let o1:List PS:=[.r [],.r [(1,q1 [oB x1])]]
  have t1 {Q:Prop} (q:Q):=aI (ZbP.snd c1) q
  refine iteB h1 (fun c2 h2=>?_) (fun c2 h3=>?_)
  ·obtain rfl:=Zaa h2
   exact af fol hE (o1 ++ [.c true,.r []]) [] 0 [] (t1 c2)
  ·obtain ⟨⟨x2,x3⟩,c3,h4⟩:=Zac h3
   let o2:List PS:=o1 ++ [.c false,.r [(4,q1 [.agg [L.arr .u64 4 x2],oB x3])]]
   have t2 {Q:Prop} (q:Q):=t1 (aJ c2 (ZbG.snd c3) q)
   refine iteB h4 (fun c4 h5=>?_) (fun c4 h6=>?_)
   ·obtain rfl:=Zaa h5
    exact afd fol hE (o2 ++ [.d {ds:=[(3,wF),(4,wF),(5,wF),(6,wF),(7,wF)],hv:=0,Hs:=[]},.c true,.r []]) [] 0 [] (t2 (aN (not_false (Zbs c4)) (not_false (Zbs c4)) (not_false (Zbs c4)) (not_false (Zbs c4)) (not_false (Zbs c4)) (not_false (Zbs c4)) eT))
   ·obtain ⟨x4,c5,h7⟩:=Zac h6
    obtain ⟨x5,c6,h8⟩:=Zac h7
    let o3:List PS:=o2 ++ [.d {ds:=[(4,q1 [.agg [L.arr .u8 32 x4]]),(6,q1 [oB x5]),(8,yF)],hv:=0,Hs:=[]}]
    have t3 {Q:Prop} (q:Q):=t2 (aO (not_true (Zbn c4)) (not_true (Zbn c4)) (ZcC.snd c5) (not_true (Zbn c4)) (not_true (Zbn c4)) (Zcp.snd c6) (not_true (Zbn c4)) (aI (not_true (Zbn c4)) q))
    refine iteB h8 (fun c7 h9=>?_) (fun c7 h10=>?_)
    ·obtain rfl:=Zaa h9
     exact afd fol hE (o3 ++ [.c true,.r []]) [] 0 [] (t3 c7)
    ·obtain rfl:=Zaa h10
     exact afd fol hE (o3 ++ [.c false,.r []]) [] 0 [] (t3 c7)
noncomputable def Zcy.B:Code:=Tryz.f151.body.getD .skip
noncomputable def Zcy.rs (r:Bool):List CV:=[oB r]
noncomputable def Zcy (N:Nat) (time_0:Int) (times_1:LL):Option Bool:=
 if ((len times_1)==0)=true then
  some true
 else
 optE (ZcX N times_1) fun x1=>
 some (decide (time_0>x1))
theorem Zcy.snd {time_0:Int} {times_1:LL} {r:Bool} (h:Zcy N time_0 times_1=some r):SndQ Tryz.prog 151 [oI time_0,.one (L.sl 1 times_1)] (Zcy.rs r):=fun st=>
 sO Zcy.B Tryz.func151 fun g0 w0 R hE=>by
  unfold Zcy at h
  refine iteB h (fun c1 h1=>?_) (fun c1 h2=>?_)
  ·obtain rfl:=Zaa h1
   exact af fol hE [.r [],.r [(4,wF),(5,wF),(6,wF),(7,wF)]] [] 0 [] (aL c1 c1 c1 c1 c1)
  ·obtain ⟨x1,c2,h3⟩:=Zac h2
   obtain rfl:=Zaa h3
   exact af fol hE [.r [],.r [(6,q1 [oI x1]),(8,yF)]] [] 0 [] (aM c1 c1 c1 (ZcX.snd c2) c1 c1)
noncomputable def ZcM.B:Code:=Tryz.f152.body.getD .skip
noncomputable def ZcM.rs (r:Bool):List CV:=[oB r]
noncomputable def ZcM (N:Nat) (time_0 now_1 future_2:Int):Option Bool:=
 if (decide (future_2≥0))=true then
  if (decide (time_0≤now_1))=true then
   some true
  else
  some (decide ((w64 (time_0-now_1))≤future_2))
 else
 some false
theorem ZcM.snd {time_0 now_1 future_2:Int} {r:Bool} (h:ZcM N time_0 now_1 future_2=some r):SndQ Tryz.prog 152 [oI time_0,oI now_1,oI future_2] (ZcM.rs r):=fun st=>
 sO ZcM.B Tryz.func152 fun g0 w0 R hE=>by
  unfold ZcM at h
  refine iteB h (fun c1 h1=>?_) (fun c1 h2=>?_)
  ·refine iteB h1 (fun c2 h3=>?_) (fun c2 h4=>?_)
   ·obtain rfl:=Zaa h3
    exact af fol hE [.r [],.r [(7,wF),(8,wF),(9,wF),(10,wF),(11,wF)]] [] 0 [] (aO c1 c1 c1 c1 c2 c2 c2 (aL c2 c2 c1 c2 c1))
   ·obtain rfl:=Zaa h4
    exact af fol hE [.r [],.r [(12,yF)]] [] 0 [] (aO c1 c1 c1 c1 c2 c2 c2 (aL c2 c2 c1 c2 c1))
  ·obtain rfl:=Zaa h2
   exact af fol hE [.r [],.r [(3,wF),(4,wF),(5,wF),(6,wF),(12,wF),(13,yF)]] [] 0 [] (aM c1 c1 c1 c1 c1 c1)
noncomputable def ZaI.B:Code:=Tryz.f153.body.getD .skip
noncomputable def ZaI.rs (r:Int):List CV:=[oI r]
noncomputable def ZaI.p2 (N:Nat) (c1_:(Int×Int)→Option Int) (height_0 least_4:Int) (gates_1:LL) (v2:Int):Option Int:=
 c1_ (least_4,w64 (v2+1))
noncomputable def ZaI.p1 (N:Nat) (height_0:Int) (gates_1:LL) (c1_:(Int×Int)→Option Int):(Int×Int)→Option Int:=fun (least_1,v2)=>
 if (decide (v2<(len gates_1)))=true then
  chk (0≤v2)<|
  getE (gates_1[Int.toNat v2]?) Zdr fun x3=>
  if (decide (height_0≥x3.Height))=true then
   ZaI.p2 N c1_ height_0 (if x3.Version>least_1 then x3.Version else least_1) gates_1 v2
  else
  ZaI.p2 N c1_ height_0 least_1 gates_1 v2
 else
 some least_1
noncomputable def ZaI (N:Nat) (height_0:Int) (gates_1:LL):Option Int:=
 loopN (ZaI.p1 N height_0 gates_1) N ((-2147483648),0)
noncomputable def ZaI.p2.S (height_0 least_4:Int) (gates_1:LL) (v2:Int) (st:LL):S:=mkS 24 [(0,sI height_0),(5,sI least_4),(8,sV 2 gates_1),(9,sI (len gates_1)),(10,sI v2)] [] st
noncomputable def ZaI.p1.S (height_0 least_1:Int) (gates_1:LL) (v2:Int) (st:LL):S:=mkS 24 [(0,sI height_0),(5,sI least_1),(8,sV 2 gates_1),(9,sI (len gates_1)),(10,sI v2)] [] st
theorem ZaI.p2_ok {height_0 least_4 gates_1 v2 st r c1_ J1} (h:ZaI.p2 N c1_ height_0 least_4 gates_1 v2=some r) (hE:En Tryz.f153 g0 w0 (ZaI.rs r) st R) (hc1 : ∀least_1 v2,c1_ (least_1,v2)=some r→At g0 w0 (ZaI.p1.S height_0 least_1 gates_1 v2 st) J1):At g0 w0 (ZaI.p2.S height_0 least_4 gates_1 v2 st) (XK Tryz.prog R [.c (csub ZaI.B [1,1,0,1,0,0,1,1,1]),.h J1,.b 0,.c (csub ZaI.B [1,1,1])]):=by
 unfold ZaI.p2 at h
 exact an fol [.r []] [0,5,8,9,10] [] trivial (hc1 least_4 (w64 (v2+1)) h)
theorem ZaI.p1_ok {height_0 least_1 gates_1 v2 st r c1_ J1} (h:ZaI.p1 N height_0 gates_1 c1_ (least_1,v2)=some r) (hE:En Tryz.f153 g0 w0 (ZaI.rs r) st R) (hc1 : ∀least_1 v2,c1_ (least_1,v2)=some r→At g0 w0 (ZaI.p1.S height_0 least_1 gates_1 v2 st) J1):At g0 w0 (ZaI.p1.S height_0 least_1 gates_1 v2 st) (XK Tryz.prog R (.c (csub ZaI.B [1,1,0,1,0,0]) :: .h J1 :: [.b 0,.c (csub ZaI.B [1,1,1])])):=by
 unfold ZaI.p1 at h
 refine iteB h (fun c1 h1=>?_) (fun c1 h2=>?_)
 ·obtain ⟨c2,h3⟩:=ZaS h1
  obtain ⟨x3,c3,h4⟩:=ZdD h3
  let o1:List PS:=[.r [],.c true,.r [(1,{oe:=x3.ls})],.r []]
  refine iteB h4 (fun c4 h5=>?_) (fun c4 h6=>?_)
  ·exact aq fol (o1 ++ [.c true,.r [],.s 4]) [0,5,8,9,10] [] (aL c1 c2 (oD c1) c3 c4) (ZaI.p2_ok h5 hE hc1)
  ·exact aq fol (o1 ++ [.c false,.s 4]) [0,5,8,9,10] [] (aL c1 c2 (oD c1) c3 c4) (ZaI.p2_ok h6 hE hc1)
 ·obtain rfl:=Zaa h2
  exact af fol hE [.r [],.c false,.r []] [] 0 [] c1
theorem ZaI.snd {height_0:Int} {gates_1:LL} {r:Int} (h:ZaI N height_0 gates_1=some r):SndQ Tryz.prog 153 [oI height_0,.one (L.sl 2 gates_1)] (ZaI.rs r):=fun st=>
 sO ZaI.B Tryz.func153 fun g0 w0 R hE=>by
  unfold ZaI at h
  exact aq fol [.r [],.r [],.r []] [0,5,8,9,10] [] trivial (At.loop N (At.loopN (fun y:Int×Int=>ZaI.p1.S height_0 y.1 gates_1 y.2 st) (fun c J hc y h=>ZaI.p1_ok (least_1:=y.1) (v2:=y.2) h hE (fun least_1 v2=>hc (least_1,v2))) N ((-2147483648),0) h))
noncomputable def Zbp.B:Code:=Tryz.f154.body.getD .skip
noncomputable def Zbp.rs (r:Bool):List CV:=[oB r]
noncomputable def Zbp.p1 (N:Nat) (height_0:Int) (checks_2:LL) (id_1_0:List Int) (c1_:Int→Option Bool):Int→Option Bool:=fun v1=>
 if (decide (v1<(len checks_2)))=true then
  chk (0≤v1)<|
  getE (checks_2[Int.toNat v1]?) Zdc fun x2=>
  if (x2.Height==height_0)=true then
   if (!(x2.Id==id_1_0))=true then
    some false
   else
   c1_ (w64 (v1+1))
  else
  c1_ (w64 (v1+1))
 else
 some true
noncomputable def Zbp (N:Nat) (height_0:Int) (id_1_0:List Int) (checks_2:LL):Option Bool:=
 loopN (Zbp.p1 N height_0 checks_2 id_1_0) N 0
noncomputable def Zbp.p1.S (height_0:Int) (checks_2:LL) (v1:Int) (id_1_0:List Int) (st:LL):S:=mkS 26 [(0,sI height_0),(4,sA 4),(9,sV 33 checks_2),(10,sI (len checks_2)),(11,sI v1)] [(4,.cells [L.arr .u8 32 id_1_0])] st
theorem Zbp.p1_ok {height_0 checks_2 v1 id_1_0 st r c1_ J1} (h:Zbp.p1 N height_0 checks_2 id_1_0 c1_ v1=some r) (hE:En Tryz.f154 g0 w0 (Zbp.rs r) st R) (hc1 : ∀v1,c1_ v1=some r→At g0 w0 (Zbp.p1.S height_0 checks_2 v1 id_1_0 st) J1):At g0 w0 (Zbp.p1.S height_0 checks_2 v1 id_1_0 st) (XK Tryz.prog R (.c (csub Zbp.B [1,0,1,0,0]) :: .h J1 :: [.b 0,.c (csub Zbp.B [1,1])])):=by
 unfold Zbp.p1 at h
 refine iteB h (fun c1 h1=>?_) (fun c1 h2=>?_)
 ·obtain ⟨c2,h3⟩:=ZaS h1
  obtain ⟨x2,c3,h4⟩:=Zdx h3
  let o1:List PS:=[.r [],.c true,.r [(1,{oe:=x2.ls})]]
  refine iteB h4 (fun c4 h5=>?_) (fun c4 h6=>?_)
  ·have t1 {Q:Prop} (q:Q):=aO c1 c2 (oD c1) c3 c4 c4 c4 (aJ c4 c4 q)
   refine iteB h5 (fun c5 h7=>?_) (fun c5 h8=>?_)
   ·obtain rfl:=Zaa h7
    exact af fol hE (o1 ++ [.r [],.c true,.r []]) [] 0 [] (t1 c5)
   ·exact an fol (o1 ++ [.r [],.c false,.r []]) [0,4,9,10,11] [4] (t1 c5) (hc1 (w64 (v1+1)) h8)
  ·exact an fol (o1 ++ [.r [(5,wF),(6,wF),(7,wF),(8,wF),(9,yF)],.c false,.r []]) [0,4,9,10,11] [4] (aO c1 c2 (oD c1) c3 c4 c4 c4 (aJ c4 c4 eF)) (hc1 (w64 (v1+1)) h6)
 ·obtain rfl:=Zaa h2
  exact af fol hE [.r [],.c false,.r []] [] 0 [] c1
theorem Zbp.snd {height_0:Int} {id_1_0:List Int} {checks_2:LL} {r:Bool} (h:Zbp N height_0 id_1_0 checks_2=some r):SndQ Tryz.prog 154 [oI height_0,.agg [L.arr .u8 32 id_1_0],.one (L.sl 33 checks_2)] (Zbp.rs r):=fun st=>
 sO Zbp.B Tryz.func154 fun g0 w0 R hE=>by
  unfold Zbp at h
  exact aq fol [.r [],.r []] [0,4,9,10,11] [4] trivial (At.loop N (At.loopN (fun y:Int=>Zbp.p1.S height_0 checks_2 y id_1_0 st) (fun c J hc y h=>Zbp.p1_ok h hE (fun v1=>hc v1)) N 0 h))
noncomputable def ZcH.B:Code:=Tryz.f92.body.getD .skip
noncomputable def ZcH.rs (r:Int):List CV:=[oI r]
noncomputable def ZcH (N:Nat) (p_0:Zan) (at_1:Zaq) (h_2:Zah) (now_3:Int):Option Int:=
 optE (ZbP N h_2) fun x1=>
 if (!x1)=true then
  some 1
 else
 if (!(h_2.Prev==at_1.Prev))=true then
  some 2
 else
 optE (Zdq N p_0 at_1.Point h_2.Time) fun x2=>
 if (h_2.Bits != x2)=true then
  some 3
 else
 optE (ZcL N p_0 h_2) fun x3=>
 if (x3 != 0)=true then
  some 4
 else
 optE (Zcy N h_2.Time at_1.Times) fun x4=>
 if (!x4)=true then
  some 5
 else
 optE (ZcM N h_2.Time now_3 p_0.Future) fun x5=>
 if (!x5)=true then
  some 6
 else
 optE (ZaI N at_1.Point.Height p_0.Gates) fun x6=>
 if (decide (h_2.Version<x6))=true then
  some 7
 else
 optE (ZcC N h_2) fun x7=>
 optE (Zbp N at_1.Point.Height x7 p_0.Checks) fun x8=>
 if (!x8)=true then
  some 8
 else
 some 0
theorem ZcH.snd {p_0:Zan} {at_1:Zaq} {h_2:Zah} {now_3:Int} {r:Int} (h:ZcH N p_0 at_1 h_2 now_3=some r):SndQ Tryz.prog 92 [.agg p_0.ls,.agg at_1.ls,.agg h_2.ls,oI now_3] (ZcH.rs r):=fun st=>
 sO ZcH.B Tryz.func92 fun g0 w0 R hE=>by
  unfold ZcH at h
  obtain ⟨x1,c1,h1⟩:=Zac h
  let o1:List PS:=[.r [],.r [(1,q1 [oB x1])]]
  have t1 {Q:Prop} (q:Q):=aI (ZbP.snd c1) q
  refine iteB h1 (fun c2 h2=>?_) (fun c2 h3=>?_)
  ·obtain rfl:=Zaa h2
   exact af fol hE (o1 ++ [.c true,.r []]) [] 0 [] (t1 c2)
  ·let o2:List PS:=o1 ++ [.c false,.r []]
   refine iteB h3 (fun c3 h4=>?_) (fun c3 h5=>?_)
   ·obtain rfl:=Zaa h4
    exact af fol hE (o2 ++ [.c true,.r []]) [] 0 [] (t1 (aI c2 c3))
   ·obtain ⟨x2,c4,h6⟩:=Zac h5
    let o3:List PS:=o2 ++ [.c false,.d {ds:=[(7,q1 [oI x2])],hv:=0,Hs:=[]}]
    have t2 {Q:Prop} (q:Q):=t1 (aK c2 c3 (Zdq.snd c4) q)
    refine iteB h6 (fun c5 h7=>?_) (fun c5 h8=>?_)
    ·obtain rfl:=Zaa h7
     exact afd fol hE (o3 ++ [.c true,.r []]) [] 0 [] (t2 c5)
    ·obtain ⟨x3,c6,h9⟩:=Zac h8
     let o4:List PS:=o3 ++ [.c false,.r [(2,q1 [oI x3])]]
     have t3 {Q:Prop} (q:Q):=t2 (aJ c5 (ZcL.snd c6) q)
     refine iteB h9 (fun c7 h10=>?_) (fun c7 h11=>?_)
     ·obtain rfl:=Zaa h10
      exact afd fol hE (o4 ++ [.c true,.r []]) [] 0 [] (t3 c7)
     ·obtain ⟨x4,c8,h12⟩:=Zac h11
      let o5:List PS:=o4 ++ [.c false,.r [(4,q1 [oB x4])]]
      have t4 {Q:Prop} (q:Q):=t3 (aJ c7 (Zcy.snd c8) q)
      refine iteB h12 (fun c9 h13=>?_) (fun c9 h14=>?_)
      ·obtain rfl:=Zaa h13
       exact afd fol hE (o5 ++ [.c true,.r []]) [] 0 [] (t4 c9)
      ·obtain ⟨x5,c10,h15⟩:=Zac h14
       let o6:List PS:=o5 ++ [.c false,.r [(5,q1 [oB x5])]]
       have t5 {Q:Prop} (q:Q):=t4 (aJ c9 (ZcM.snd c10) q)
       refine iteB h15 (fun c11 h16=>?_) (fun c11 h17=>?_)
       ·obtain rfl:=Zaa h16
        exact afd fol hE (o6 ++ [.c true,.r []]) [] 0 [] (t5 c11)
       ·obtain ⟨x6,c12,h18⟩:=Zac h17
        let o7:List PS:=o6 ++ [.c false,.d {ds:=[(7,q1 [oI x6])],hv:=0,Hs:=[]}]
        have t6 {Q:Prop} (q:Q):=t5 (aJ c11 (ZaI.snd c12) q)
        refine iteB h18 (fun c13 h19=>?_) (fun c13 h20=>?_)
        ·obtain rfl:=Zaa h19
         exact afd fol hE (o7 ++ [.c true,.r []]) [] 0 [] (t6 c13)
        ·obtain ⟨x7,c14,h21⟩:=Zac h20
         obtain ⟨x8,c15,h22⟩:=Zac h21
         let o8:List PS:=o7 ++ [.c false,.d {ds:=[(4,q1 [.agg [L.arr .u8 32 x7]]),(7,q1 [oB x8])],hv:=0,Hs:=[]}]
         have t7 {Q:Prop} (q:Q):=t6 (aK c13 (ZcC.snd c14) (Zbp.snd c15) q)
         refine iteB h22 (fun c16 h23=>?_) (fun c16 h24=>?_)
         ·obtain rfl:=Zaa h23
          exact afd fol hE (o8 ++ [.c true,.r []]) [] 0 [] (t7 c16)
         ·obtain rfl:=Zaa h24
          exact afd fol hE (o8 ++ [.c false,.r []]) [] 0 [] (t7 c16)
noncomputable def ZbB.B:Code:=Tryz.f175.body.getD .skip
noncomputable def ZbB.rs (r:(List Int)):List CV:=[.agg [L.arr .u64 4 r]]
noncomputable def ZbB.p1 (N:Nat) (c1_:(Int×(List Int))→Option (List Int)):(Int×(List Int))→Option (List Int):=fun (v1,a_2)=>
 if (decide (v1<4))=true then
  chk (0≤v1)<|
  c1_ (w64 (v1+1),List.set a_2 (Int.toNat v1) (bitsOf .xor .u64 (IntKind.max IntKind.u64) (List.getD a_2 (Int.toNat v1) 0)))
 else
 some a_2
noncomputable def ZbB (N:Nat) (a_0_0:List Int):Option (List Int):=
 loopN (ZbB.p1 N) N (0,a_0_0)
noncomputable def ZbB.p1.S (v1:Int) (a_2:List Int) (st:LL):S:=mkS 15 [(1,sA 1),(2,sA 2),(4,sI v1)] [(1,.cells [L.arr .u64 4 a_2]),(2,.cells [L.arr .u64 4 (List.replicate 4 0)])] st
theorem ZbB.p1_ok {v1 a_2 st r c1_ J1} (h:ZbB.p1 N c1_ (v1,a_2)=some r) (hE:En Tryz.f175 g0 w0 (ZbB.rs r) st R) (hc1 : ∀v1 a_2,c1_ (v1,a_2)=some r→At g0 w0 (ZbB.p1.S v1 a_2 st) J1):At g0 w0 (ZbB.p1.S v1 a_2 st) (XK Tryz.prog R (.c (csub ZbB.B [1,0,1,0,0]) :: .h J1 :: [.b 0,.c (csub ZbB.B [1,1])])):=by
 unfold ZbB.p1 at h
 refine iteB h (fun c3 h1=>?_) (fun c3 h2=>?_)
 ·obtain ⟨c4,h3⟩:=ZaS h1
  exact an fol [.r [],.c true,.r [],.r [],.r []] [1,2,4] [1,2] (aL c3 c4 (oD c3) c4 (oD c3)) (hc1 (w64 (v1+1)) (List.set a_2 (Int.toNat v1) (bitsOf .xor .u64 (IntKind.max IntKind.u64) (List.getD a_2 (Int.toNat v1) 0))) h3)
 ·obtain rfl:=Zaa h2
  exact af fol hE [.r [],.c false,.r []] [] 0 [] c3
theorem ZbB.snd {a_0_0:List Int} {r:(List Int)} (h:ZbB N a_0_0=some r):SndQ Tryz.prog 175 [.agg [L.arr .u64 4 a_0_0]] (ZbB.rs r):=fun st=>
 sO ZbB.B Tryz.func175 fun g0 w0 R hE=>by
  unfold ZbB at h
  exact aq fol [.r [],.r []] [1,2,4] [1,2] trivial (At.loop N (At.loopN (fun y:Int×(List Int)=>ZbB.p1.S y.1 y.2 st) (fun c J hc y h=>ZbB.p1_ok (v1:=y.1) (a_2:=y.2) h hE (fun v1 a_2=>hc (v1,a_2))) N (0,a_0_0) h))
noncomputable def ZbM.B:Code:=Tryz.f207.body.getD .skip
noncomputable def ZbM.rs (r:(List Int)×Bool):List CV:=[.agg [L.arr .u64 4 r.1],oB r.2]
noncomputable def ZbM.p1 (N:Nat) (b_1_0:List Int) (c1_:(Int×Int×(List Int))→Option ((List Int)×Bool)):(Int×Int×(List Int))→Option ((List Int)×Bool):=fun (c_1,v2,a_5)=>
 if (decide (v2<4))=true then
  chk (0≤v2)<|
  optE (Zdz N (List.getD a_5 (Int.toNat v2) 0) (List.getD b_1_0 (Int.toNat v2) 0) c_1) fun (x6,x7)=>
  c1_ (x7,w64 (v2+1),List.set a_5 (Int.toNat v2) x6)
 else
 some (a_5,c_1 != 0)
noncomputable def ZbM (N:Nat) (a_0_0 b_1_0:List Int):Option ((List Int)×Bool):=
 loopN (ZbM.p1 N b_1_0) N (0,0,a_0_0)
noncomputable def ZbM.p1.S (c_1 v2:Int) (a_5 b_1_0:List Int) (st:LL):S:=mkS 28 [(2,sA 2),(3,sA 3),(4,sA 4),(6,.one (.l (L.int .u64 c_1))),(8,sI v2)] [(2,.cells [L.arr .u64 4 a_5]),(3,.cells [L.arr .u64 4 b_1_0]),(4,.cells [L.arr .u64 4 (List.replicate 4 0)])] st
theorem ZbM.p1_ok {c_1 v2 a_5 b_1_0 st r c1_ J1} (h:ZbM.p1 N b_1_0 c1_ (c_1,v2,a_5)=some r) (hE:En Tryz.f207 g0 w0 (ZbM.rs r) st R) (hc1 : ∀c_1 v2 a_5,c1_ (c_1,v2,a_5)=some r→At g0 w0 (ZbM.p1.S c_1 v2 a_5 b_1_0 st) J1):At g0 w0 (ZbM.p1.S c_1 v2 a_5 b_1_0 st) (XK Tryz.prog R (.c (csub ZbM.B [1,1,0,1,0,0]) :: .h J1 :: [.b 0,.c (csub ZbM.B [1,1,1])])):=by
 unfold ZbM.p1 at h
 refine iteB h (fun c4 h1=>?_) (fun c4 h2=>?_)
 ·obtain ⟨c5,h3⟩:=ZaS h1
  obtain ⟨⟨x6,x7⟩,c6,h4⟩:=Zac h3
  exact and_ fol [.r [],.c true,.r [],.d {ds:=[(8,{rs:=[.one (L.int .u64 x6),.one (L.int .u64 x7)],m:=4})],hv:=8192,Hs:=[8192]},.r []] [2,3,4,6,8] [2,3,4] (aO c4 c5 (oD c4) c5 (oD c4) (Zdz.snd c6) c5 (oD c4)) (hc1 x7 (w64 (v2+1)) (List.set a_5 (Int.toNat v2) x6) h4)
 ·obtain rfl:=Zaa h2
  exact af fol hE [.r [],.c false,.r []] [] 0 [] c4
theorem ZbM.snd {a_0_0 b_1_0:List Int} {r:(List Int)×Bool} (h:ZbM N a_0_0 b_1_0=some r):SndQ Tryz.prog 207 [.agg [L.arr .u64 4 a_0_0],.agg [L.arr .u64 4 b_1_0]] (ZbM.rs r):=fun st=>
 sO ZbM.B Tryz.func207 fun g0 w0 R hE=>by
  unfold ZbM at h
  exact aq fol [.r [],.r [],.r []] [2,3,4,6,8] [2,3,4] trivial (At.loop N (At.loopN (fun y:Int×Int×(List Int)=>ZbM.p1.S y.1 y.2.1 y.2.2 b_1_0 st) (fun c J hc y h=>ZbM.p1_ok (c_1:=y.1) (v2:=y.2.1) (a_5:=y.2.2) h hE (fun c_1 v2 a_5=>hc (c_1,v2,a_5))) N (0,0,a_0_0) h))
noncomputable def Zba.B:Code:=Tryz.f179.body.getD .skip
noncomputable def Zba.rs (r:(List Int)×(List Int)):List CV:=[.agg [L.arr .u64 4 r.1],.agg [L.arr .u64 4 r.2]]
noncomputable def Zba.p2 (N:Nat) (c1_:(Int×(List Int)×(List Int))→Option ((List Int)×(List Int))) (i_3:Int) (a_0_0 by_1_0 out_21 rest_20:List Int):Option ((List Int)×(List Int)):=
 c1_ (w64 (i_3-1),out_21,rest_20)
noncomputable def Zba.p1 (N:Nat) (a_0_0 by_1_0:List Int) (c1_:(Int×(List Int)×(List Int))→Option ((List Int)×(List Int))):(Int×(List Int)×(List Int))→Option ((List Int)×(List Int)):=fun (i_3,out_12,rest_13)=>
 if (decide (i_3≥0))=true then
  optE (Zbh N rest_13 1) fun x14=>
  chk (0≤(w64 (Int.tdiv i_3 64)))<|
  chk ((w64 (Int.tdiv i_3 64))<4)<|
  chk (0≤(Int.tmod i_3 64))<|
  if ((shrOf .u64 (List.getD rest_13 3 0) 63)==1)=true then
   optE (ZbM N (List.set x14 0 (bitsOf .or .u64 (List.getD x14 0 0) (bitsOf .and .u64 (shrOf .u64 (List.getD a_0_0 (Int.toNat (w64 (Int.tdiv i_3 64))) 0) (Int.tmod i_3 64)) 1))) by_1_0) fun (x15,x16)=>
   Zba.p2 N c1_ i_3 a_0_0 by_1_0 (List.set out_12 (Int.toNat (w64 (Int.tdiv i_3 64))) (bitsOf .or .u64 (List.getD out_12 (Int.toNat (w64 (Int.tdiv i_3 64))) 0) (shlOf .u64 1 (Int.tmod i_3 64)))) x15
  else
  optE (ZbW N (List.set x14 0 (bitsOf .or .u64 (List.getD x14 0 0) (bitsOf .and .u64 (shrOf .u64 (List.getD a_0_0 (Int.toNat (w64 (Int.tdiv i_3 64))) 0) (Int.tmod i_3 64)) 1))) by_1_0) fun x17=>
  if (!x17)=true then
   optE (ZbM N (List.set x14 0 (bitsOf .or .u64 (List.getD x14 0 0) (bitsOf .and .u64 (shrOf .u64 (List.getD a_0_0 (Int.toNat (w64 (Int.tdiv i_3 64))) 0) (Int.tmod i_3 64)) 1))) by_1_0) fun (x18,x19)=>
   Zba.p2 N c1_ i_3 a_0_0 by_1_0 (List.set out_12 (Int.toNat (w64 (Int.tdiv i_3 64))) (bitsOf .or .u64 (List.getD out_12 (Int.toNat (w64 (Int.tdiv i_3 64))) 0) (shlOf .u64 1 (Int.tmod i_3 64)))) x18
  else
  Zba.p2 N c1_ i_3 a_0_0 by_1_0 out_12 (List.set x14 0 (bitsOf .or .u64 (List.getD x14 0 0) (bitsOf .and .u64 (shrOf .u64 (List.getD a_0_0 (Int.toNat (w64 (Int.tdiv i_3 64))) 0) (Int.tmod i_3 64)) 1)))
 else
 some (out_12,rest_13)
noncomputable def Zba (N:Nat) (a_0_0 by_1_0:List Int):Option ((List Int)×(List Int)):=
 optE (ZbY N by_1_0) fun x1=>
 if x1=true then
  some (List.replicate 4 0,List.replicate 4 0)
 else
 optE (ZbJ N a_0_0) fun x2=>
 loopN (Zba.p1 N a_0_0 by_1_0) N (w64 (x2-1),List.replicate 4 0,List.replicate 4 0)
noncomputable def Zba.p2.S (i_3:Int) (a_0_0 by_1_0 out_21 rest_20:List Int) (st:LL):S:=mkS 63 [(2,sA 2),(3,sA 3),(4,sA 4),(5,sA 5),(6,sA 6),(7,sA 7),(8,sI i_3)] [(2,.cells [L.arr .u64 4 a_0_0]),(3,.cells [L.arr .u64 4 by_1_0]),(4,.cells [L.arr .u64 4 (List.replicate 4 0)]),(5,.cells [L.arr .u64 4 (List.replicate 4 0)]),(6,.cells [L.arr .u64 4 out_21]),(7,.cells [L.arr .u64 4 rest_20])] st
noncomputable def Zba.p1.S (i_3:Int) (a_0_0 by_1_0 out_12 rest_13:List Int) (st:LL):S:=mkS 63 [(2,sA 2),(3,sA 3),(4,sA 4),(5,sA 5),(6,sA 6),(7,sA 7),(8,sI i_3)] [(2,.cells [L.arr .u64 4 a_0_0]),(3,.cells [L.arr .u64 4 by_1_0]),(4,.cells [L.arr .u64 4 (List.replicate 4 0)]),(5,.cells [L.arr .u64 4 (List.replicate 4 0)]),(6,.cells [L.arr .u64 4 out_12]),(7,.cells [L.arr .u64 4 rest_13])] st
theorem Zba.p2_ok {i_3 a_0_0 by_1_0 out_21 rest_20 st r c1_ J1} (h:Zba.p2 N c1_ i_3 a_0_0 by_1_0 out_21 rest_20=some r) (hE:En Tryz.f179 g0 w0 (Zba.rs r) st R) (hc1 : ∀i_3 out_12 rest_13,c1_ (i_3,out_12,rest_13)=some r→At g0 w0 (Zba.p1.S i_3 a_0_0 by_1_0 out_12 rest_13 st) J1):At g0 w0 (Zba.p2.S i_3 a_0_0 by_1_0 out_21 rest_20 st) (XK Tryz.prog R [.c (csub Zba.B [1,1,1,0,1,0,0,1,1]),.h J1,.b 0,.c (csub Zba.B [1,1,1,1])]):=by
 unfold Zba.p2 at h
 exact an fol [.r []] [2,3,4,5,6,7,8] [2,3,4,5,6,7] trivial (hc1 (w64 (i_3-1)) out_21 rest_20 h)
theorem Zba.p1_ok {i_3 a_0_0 by_1_0 out_12 rest_13 st r c1_ J1} (h:Zba.p1 N a_0_0 by_1_0 c1_ (i_3,out_12,rest_13)=some r) (hE:En Tryz.f179 g0 w0 (Zba.rs r) st R) (hc1 : ∀i_3 out_12 rest_13,c1_ (i_3,out_12,rest_13)=some r→At g0 w0 (Zba.p1.S i_3 a_0_0 by_1_0 out_12 rest_13 st) J1):At g0 w0 (Zba.p1.S i_3 a_0_0 by_1_0 out_12 rest_13 st) (XK Tryz.prog R (.c (csub Zba.B [1,1,1,0,1,0,0]) :: .h J1 :: [.b 0,.c (csub Zba.B [1,1,1,1])])):=by
 unfold Zba.p1 at h
 refine iteB h (fun c14 h1=>?_) (fun c14 h2=>?_)
 ·obtain ⟨x14,c15,h3⟩:=Zac h1
  obtain ⟨c16,c17,c18,h4⟩:=ck3 h3
  let o1:List PS:=[.r [],.c true,.r [],.r [(1,q1 [.agg [L.arr .u64 4 x14]])],.d {ds:=[],hv:=4096,Hs:=[4096]}]
  have t1 {Q:Prop} (q:Q):=aI c14 (ix 3 4 (aJ (leI 0 63) (Zbh.snd c15) (ix 0 4 (aM (neI 64) c16 c17 (neI 64) c18 (ix 0 4 q)))))
  refine iteB h4 (fun c19 h5=>?_) (fun c19 h6=>?_)
  ·obtain ⟨⟨x15,x16⟩,c20,h7⟩:=Zac h5
   exact aqd fol (o1 ++ [.r [(2,wF),(3,wF),(4,wF),(5,wF)],.c true,.r [(2,q1 [.agg [L.arr .u64 4 x15],oB x16])],.d {ds:=[],hv:=512,Hs:=[512]},.s 4]) [2,3,4,5,6,7,8] [2,3,4,5,6,7] (t1 (aO c19 c19 c19 c19 c19 eT (ZbM.snd c20) (aN (neI 64) c16 c17 (neI 64) c18 c16 c17))) (Zba.p2_ok h7 hE hc1)
  ·obtain ⟨x17,c21,h8⟩:=Zac h6
   let o2:List PS:=o1 ++ [.r [(4,q1 [oB x17]),(6,yF)]]
   have t2 {Q:Prop} (q:Q):=t1 (aN c19 c19 c19 (ZbW.snd c21) c19 c19 q)
   refine iteB h8 (fun c22 h9=>?_) (fun c22 h10=>?_)
   ·obtain ⟨⟨x18,x19⟩,c23,h11⟩:=Zac h9
    exact aqd fol (o2 ++ [.c true,.r [(2,q1 [.agg [L.arr .u64 4 x18],oB x19])],.d {ds:=[],hv:=512,Hs:=[512]},.s 4]) [2,3,4,5,6,7,8] [2,3,4,5,6,7] (t2 (aO c22 (ZbM.snd c23) (neI 64) c16 c17 (neI 64) c18 (aI c16 c17))) (Zba.p2_ok h11 hE hc1)
   ·exact aqd fol (o2 ++ [.c false,.s 4]) [2,3,4,5,6,7,8] [2,3,4,5,6,7] (t2 c22) (Zba.p2_ok h10 hE hc1)
 ·obtain rfl:=Zaa h2
  exact afd fol hE [.r [],.c false,.d {ds:=[],hv:=12,Hs:=[4,12]}] [] 0 [] c14
theorem Zba.snd {a_0_0 by_1_0:List Int} {r:(List Int)×(List Int)} (h:Zba N a_0_0 by_1_0=some r):SndQ Tryz.prog 179 [.agg [L.arr .u64 4 a_0_0],.agg [L.arr .u64 4 by_1_0]] (Zba.rs r):=fun st=>
 sO Zba.B Tryz.func179 fun g0 w0 R hE=>by
  unfold Zba at h
  obtain ⟨x1,c1,h12⟩:=Zac h
  let o3:List PS:=[.r [],.r [],.r [(1,q1 [oB x1])]]
  refine iteB h12 (fun c2 h13=>?_) (fun c2 h14=>?_)
  ·obtain rfl:=Zaa h13
   exact afd fol hE (o3 ++ [.c true,.d {ds:=[],hv:=12,Hs:=[4,12]}]) [] 0 [] (aI (ZbY.snd c1) c2)
  ·obtain ⟨x2,c3,h15⟩:=Zac h14
   exact aq fol (o3 ++ [.c false,.r [(1,q1 [oI x2])]]) [2,3,4,5,6,7,8] [2,3,4,5,6,7] (aJ (ZbY.snd c1) c2 (ZbJ.snd c3)) (At.loop N (At.loopN (fun y:Int×(List Int)×(List Int)=>Zba.p1.S y.1 a_0_0 by_1_0 y.2.1 y.2.2 st) (fun c J hc y h=>Zba.p1_ok (i_3:=y.1) (out_12:=y.2.1) (rest_13:=y.2.2) h hE (fun i_3 out_12 rest_13=>hc (i_3,out_12,rest_13))) N (w64 (x2-1),List.replicate 4 0,List.replicate 4 0) h15))
noncomputable def ZcG.B:Code:=Tryz.f115.body.getD .skip
noncomputable def ZcG.rs (r:(List Int)):List CV:=[.agg [L.arr .u64 4 r]]
noncomputable def ZcG (N:Nat):Option (List Int):=
 optE (ZbB N (List.replicate 4 0)) fun x1=>
 some x1
theorem ZcG.snd {r:(List Int)} (h:ZcG N=some r):SndQ Tryz.prog 115 [] (ZcG.rs r):=fun st=>
 sO ZcG.B Tryz.func115 fun g0 w0 R hE=>by
  unfold ZcG at h
  obtain ⟨x1,c1,h1⟩:=Zac h
  obtain rfl:=Zaa h1
  exact af fol hE [.r [],.r [(1,q1 [.agg [L.arr .u64 4 x1]])]] [] 0 [] (ZbB.snd c1)
noncomputable def Zee.B:Code:=Tryz.f118.body.getD .skip
noncomputable def Zee.rs (r:(List Int)):List CV:=[.agg [L.arr .u64 4 r]]
noncomputable def Zee (N:Nat) (target_0_0:List Int):Option (List Int):=
 optE (Zco N 1) fun x1=>
 optE (Zbm N target_0_0 x1) fun (x2,x3)=>
 if x3=true then
  some x1
 else
 optE (ZbB N target_0_0) fun x4=>
 optE (Zba N x4 x2) fun (x5,x6)=>
 optE (Zbm N x5 x1) fun (x7,x8)=>
 if x8=true then
  optE (ZcG N ) fun x9=>
  some x9
 else
 some x7
theorem Zee.snd {target_0_0:List Int} {r:(List Int)} (h:Zee N target_0_0=some r):SndQ Tryz.prog 118 [.agg [L.arr .u64 4 target_0_0]] (Zee.rs r):=fun st=>
 sO Zee.B Tryz.func118 fun g0 w0 R hE=>by
  unfold Zee at h
  obtain ⟨x1,c1,h1⟩:=Zac h
  obtain ⟨⟨x2,x3⟩,c2,h2⟩:=Zac h1
  let o1:List PS:=[.r [],.d {ds:=[(1,q1 [.agg [L.arr .u64 4 x1]]),(2,q1 [.agg [L.arr .u64 4 x2],oB x3])],hv:=192,Hs:=[64,192]},.r []]
  have t1 {Q:Prop} (q:Q):=aL (Zco.snd c1) (Zco.snd c1) (Zbm.snd c2) (Zbm.snd c2) q
  refine iteB h2 (fun c3 h3=>?_) (fun c3 h4=>?_)
  ·obtain rfl:=Zaa h3
   exact afd fol hE (o1 ++ [.c true,.r [(0,q1 [.agg [L.arr .u64 4 x1]])]]) [] 0 [] (t1 (aI c3 (Zco.snd c1)))
  ·obtain ⟨x4,c4,h5⟩:=Zac h4
   obtain ⟨⟨x5,x6⟩,c5,h6⟩:=Zac h5
   obtain ⟨⟨x7,x8⟩,c6,h7⟩:=Zac h6
   let o2:List PS:=o1 ++ [.c false,.d {ds:=[(1,q1 [.agg [L.arr .u64 4 x4]]),(3,q1 [.agg [L.arr .u64 4 x5],.agg [L.arr .u64 4 x6]])],hv:=1920,Hs:=[128,256,384,896,1920]},.d {ds:=[(1,q1 [.agg [L.arr .u64 4 x1]]),(2,q1 [.agg [L.arr .u64 4 x7],oB x8])],hv:=192,Hs:=[64,192]},.r []]
   have t2 {Q:Prop} (q:Q):=t1 (aO c3 (ZbB.snd c4) (ZbB.snd c4) (ZbB.snd c4) (ZbB.snd c4) (Zba.snd c5) (Zba.snd c5) (aN (Zba.snd c5) (Zba.snd c5) (Zco.snd c1) (Zco.snd c1) (Zbm.snd c6) (Zbm.snd c6) q))
   refine iteB h7 (fun c7 h8=>?_) (fun c7 h9=>?_)
   ·obtain ⟨x9,c8,h10⟩:=Zac h8
    obtain rfl:=Zaa h10
    exact afd fol hE (o2 ++ [.c true,.r [(0,q1 [.agg [L.arr .u64 4 x9]])]]) [] 0 [] (t2 (aI c7 (ZcG.snd c8)))
   ·obtain rfl:=Zaa h9
    exact afd fol hE (o2 ++ [.c false,.r []]) [] 0 [] (t2 c7)
noncomputable def ZcD.B:Code:=Tryz.f64.body.getD .skip
noncomputable def ZcD.rs (r:(List Int)):List CV:=[.agg [L.arr .u64 4 r]]
noncomputable def ZcD (N:Nat) (bits_0:Int):Option (List Int):=
 optE (Zav N bits_0) fun (x1,x2,x3)=>
 if x2=true then
  some (List.replicate 4 0)
 else
 if x3=true then
  some (List.replicate 4 0)
 else
 optE (ZbY N x1) fun x4=>
 if x4=true then
  some (List.replicate 4 0)
 else
 optE (Zee N x1) fun x5=>
 some x5
theorem ZcD.snd {bits_0:Int} {r:(List Int)} (h:ZcD N bits_0=some r):SndQ Tryz.prog 64 [oI bits_0] (ZcD.rs r):=fun st=>
 sO ZcD.B Tryz.func64 fun g0 w0 R hE=>by
  unfold ZcD at h
  obtain ⟨⟨x1,x2,x3⟩,c1,h1⟩:=Zac h
  let o1:List PS:=[.r [],.r [(1,q1 [.agg [L.arr .u64 4 x1],oB x2,oB x3])]]
  have t1 {Q:Prop} (q:Q):=aI (Zav.snd c1) q
  refine iteB h1 (fun c2 h2=>?_) (fun c2 h3=>?_)
  ·obtain rfl:=Zaa h2
   exact af fol hE (o1 ++ [.r [(2,wF),(5,wF),(6,wF)],.c true,.r []]) [] 0 [] (t1 (aM c2 c2 eT eT eT eT))
  ·refine iteB h3 (fun c3 h4=>?_) (fun c3 h5=>?_)
   ·obtain rfl:=Zaa h4
    exact af fol hE (o1 ++ [.r [(3,yF),(5,wF),(6,wF)],.c true,.r []]) [] 0 [] (t1 (aM c2 c2 c3 c3 c3 eT))
   ·obtain ⟨x4,c4,h6⟩:=Zac h5
    let o2:List PS:=o1 ++ [.r [(3,yF),(6,q1 [oB x4]),(7,yF)]]
    refine iteB h6 (fun c5 h7=>?_) (fun c5 h8=>?_)
    ·obtain rfl:=Zaa h7
     exact af fol hE (o2 ++ [.c true,.r []]) [] 0 [] (t1 (aN c2 c2 c3 c3 (ZbY.snd c4) c3 c5))
    ·obtain ⟨x5,c6,h9⟩:=Zac h8
     obtain rfl:=Zaa h9
     exact af fol hE (o2 ++ [.c false,.r [(1,q1 [.agg [L.arr .u64 4 x5]])]]) [] 0 [] (t1 (aO c2 c2 c3 c3 (ZbY.snd c4) c3 c5 (Zee.snd c6)))
noncomputable def ZbI.B:Code:=Tryz.f114.body.getD .skip
noncomputable def ZbI.rs (r:(List Int)×Bool):List CV:=[.agg [L.arr .u64 4 r.1],oB r.2]
noncomputable def ZbI.p1 (N:Nat) (list_0:LL) (c1_:(Bool×Int×(List Int))→Option ((List Int)×Bool)):(Bool×Int×(List Int))→Option ((List Int)×Bool):=fun (over_1,v2,out_6)=>
 if (decide (v2<(len list_0)))=true then
  chk (0≤v2)<|
  getE (list_0[Int.toNat v2]?) ZfJ fun x7=>
  optE (Zbm N out_6 x7) fun (x8,x9)=>
  if over_1=true then
   c1_ (true,w64 (v2+1),x8)
  else
  c1_ (x9,w64 (v2+1),x8)
 else
 some (out_6,over_1)
noncomputable def ZbI (N:Nat) (list_0:LL):Option ((List Int)×Bool):=
 loopN (ZbI.p1 N list_0) N (false,0,List.replicate 4 0)
noncomputable def ZbI.p1.S (over_1:Bool) (list_0:LL) (v2:Int) (out_6:List Int) (st:LL):S:=mkS 28 [(2,sA 2),(4,sA 4),(5,.one (.l (L.bool over_1))),(9,sV 4 list_0),(10,sI (len list_0)),(11,sI v2)] [(2,.cells [L.arr .u64 4 (List.replicate 4 0)]),(4,.cells [L.arr .u64 4 out_6])] st
theorem ZbI.p1_ok {over_1 list_0 v2 out_6 st r c1_ J1} (h:ZbI.p1 N list_0 c1_ (over_1,v2,out_6)=some r) (hE:En Tryz.f114 g0 w0 (ZbI.rs r) st R) (hc1 : ∀over_1 v2 out_6,c1_ (over_1,v2,out_6)=some r→At g0 w0 (ZbI.p1.S over_1 list_0 v2 out_6 st) J1):At g0 w0 (ZbI.p1.S over_1 list_0 v2 out_6 st) (XK Tryz.prog R (.c (csub ZbI.B [1,1,1,0,1,0,0]) :: .h J1 :: [.b 0,.c (csub ZbI.B [1,1,1,1])])):=by
 unfold ZbI.p1 at h
 refine iteB h (fun c6 h1=>?_) (fun c6 h2=>?_)
 ·obtain ⟨c7,h3⟩:=ZaS h1
  obtain ⟨x7,c8,h4⟩:=ZhX h3
  obtain ⟨⟨x8,x9⟩,c9,h5⟩:=Zac h4
  let o1:List PS:=[.r [],.c true,.r [(1,{oe:=[L.arr .u64 4 x7]})],.r [],.r [(2,q1 [.agg [L.arr .u64 4 x8],oB x9])]]
  refine iteB h5 (fun c10 h6=>?_) (fun c10 h7=>?_)
  ·exact an fol (o1 ++ [.r [(2,wF)],.r []]) [2,4,5,9,10,11] [2,4] (aN c6 c7 (oD c6) c8 (Zbm.snd c9) c10 c10) (hc1 true (w64 (v2+1)) x8 h6)
  ·exact an fol (o1 ++ [.r [(3,yF)],.r []]) [2,4,5,9,10,11] [2,4] (aN c6 c7 (oD c6) c8 (Zbm.snd c9) c10 c10) (hc1 x9 (w64 (v2+1)) x8 h7)
 ·obtain rfl:=Zaa h2
  exact af fol hE [.r [],.c false,.r []] [] 0 [] c6
theorem ZbI.snd {list_0:LL} {r:(List Int)×Bool} (h:ZbI N list_0=some r):SndQ Tryz.prog 114 [.one (L.sl 4 list_0)] (ZbI.rs r):=fun st=>
 sO ZbI.B Tryz.func114 fun g0 w0 R hE=>by
  unfold ZbI at h
  exact aq fol [.r [],.r [],.r [],.r []] [2,4,5,9,10,11] [2,4] trivial (At.loop N (At.loopN (fun y:Bool×Int×(List Int)=>ZbI.p1.S y.1 list_0 y.2.1 y.2.2 st) (fun c J hc y h=>ZbI.p1_ok (over_1:=y.1) (v2:=y.2.1) (out_6:=y.2.2) h hE (fun over_1 v2 out_6=>hc (over_1,v2,out_6))) N (false,0,List.replicate 4 0) h))
noncomputable def ZdC.B:Code:=Tryz.f63.body.getD .skip
noncomputable def ZdC.rs (r:(List Int)):List CV:=[.agg [L.arr .u64 4 r]]
noncomputable def ZdC (N:Nat) (list_0:LL):Option (List Int):=
 optE (ZbI N list_0) fun (x1,x2)=>
 if x2=true then
  optE (ZcG N ) fun x3=>
  some x3
 else
 some x1
theorem ZdC.snd {list_0:LL} {r:(List Int)} (h:ZdC N list_0=some r):SndQ Tryz.prog 63 [.one (L.sl 4 list_0)] (ZdC.rs r):=fun st=>
 sO ZdC.B Tryz.func63 fun g0 w0 R hE=>by
  unfold ZdC at h
  obtain ⟨⟨x1,x2⟩,c1,h1⟩:=Zac h
  let o1:List PS:=[.r [],.r [(1,q1 [.agg [L.arr .u64 4 x1],oB x2])],.r []]
  refine iteB h1 (fun c2 h2=>?_) (fun c2 h3=>?_)
  ·obtain ⟨x3,c3,h4⟩:=Zac h2
   obtain rfl:=Zaa h4
   exact af fol hE (o1 ++ [.c true,.r [(0,q1 [.agg [L.arr .u64 4 x3]])]]) [] 0 [] (aJ (ZbI.snd c1) c2 (ZcG.snd c3))
  ·obtain rfl:=Zaa h3
   exact af fol hE (o1 ++ [.c false,.r []]) [] 0 [] (aI (ZbI.snd c1) c2)
noncomputable def ZbK.B:Code:=Tryz.f167.body.getD .skip
noncomputable def ZbK.rs (r:Bool×LL):List CV:=[oB r.1]
noncomputable def ZbK (N:Nat) (s_0:Option Nat) (h_1:Zah) (now_2:Int) (st:LL):Option (Bool×LL):=
 optE s_0 fun i1=>
 getE (st[i1]?) Zbb fun x2 x3 x4 x5 x6 x7 x8 x9 x10 x11 x12 x13 x14 x15 x16 x17 x18 x19 x20 x21 x22 x23 x24 x25 x26 x27 x28 x29 x30 x31 x32 x33 x34 x35 x36 x37=>
 optE (ZcH N (Zan.mk x2 x3 x4 x5 x6 x7 x8 x9 x10 (Zah.mk x11 x12 x13 x14 x15 x16)) (Zaq.mk (ZaL.mk x25 x26 x27 x28 x29) x30 x31) h_1 now_2) fun x38=>
 if (x38 != 0)=true then
  some (false,st)
 else
 optE (Zcf N (Zan.mk x2 x3 x4 x5 x6 x7 x8 x9 x10 (Zah.mk x11 x12 x13 x14 x15 x16)) (Zaq.mk (ZaL.mk x25 x26 x27 x28 x29) x30 x31) h_1) fun x39=>
 optE (ZcD N h_1.Bits) fun x40=>
 optE (ZdC N [[L.arr .u64 4 x32],[L.arr .u64 4 x40]]) fun x41=>
 some (true,List.set st i1 [L.int .i64 x2,L.int .i64 x3,L.int .i64 x4,L.int .i64 x5,L.bool x6,L.sl 2 x7,L.sl 33 x8,L.arr .u64 4 x9,L.arr .u64 4 x10,L.int .i64 x11,L.arr .u8 32 x12,L.arr .u8 32 x13,L.int .i64 x14,L.int .i64 x15,L.int .i64 x16,L.int .i64 x17,L.int .i64 x18,L.int .i64 x19,L.int .i64 x20,L.int .i64 x21,L.arr .u8 32 x22,L.sl 1 x23,L.arr .u64 4 x24,L.int .i64 x39.Point.Height,L.int .i64 x39.Point.Bits,L.int .i64 x39.Point.Time,L.int .i64 x39.Point.First,L.int .i64 x39.Point.Hard,L.arr .u8 32 x39.Prev,L.sl 1 x39.Times,L.arr .u64 4 x41,L.ptr x33,L.int .i64 x34,L.int .i64 x35,L.int .i64 x36,L.own true 68 x37])
theorem ZbK.snd {s_0:Option Nat} {h_1:Zah} {now_2:Int} {st:LL} {r:Bool×LL} (h:ZbK N s_0 h_1 now_2 st=some r):Snd Tryz.prog 167 [.one (L.ptr s_0),.agg h_1.ls,oI now_2] st (ZbK.rs r) r.2:=
 sO ZbK.B Tryz.func167 fun g0 w0 R hE=>by
  unfold ZbK at h
  obtain ⟨i1,rfl,h1⟩:=Zac h
  obtain ⟨x2,x3,x4,x5,x6,x7,x8,x9,x10,x11,x12,x13,x14,x15,x16,x17,x18,x19,x20,x21,x22,x23,x24,x25,x26,x27,x28,x29,x30,x31,x32,x33,x34,x35,x36,x37,c2,h2⟩:=ZaX h1
  obtain ⟨x38,c3,h3⟩:=Zac h2
  let o1:List PS:=[.r [],.d {ds:=[(3,{oc:=[L.int .i64 x2,L.int .i64 x3,L.int .i64 x4,L.int .i64 x5,L.bool x6,L.sl 2 x7,L.sl 33 x8,L.arr .u64 4 x9,L.arr .u64 4 x10,L.int .i64 x11,L.arr .u8 32 x12,L.arr .u8 32 x13,L.int .i64 x14,L.int .i64 x15,L.int .i64 x16,L.int .i64 x17,L.int .i64 x18,L.int .i64 x19,L.int .i64 x20,L.int .i64 x21,L.arr .u8 32 x22,L.sl 1 x23,L.arr .u64 4 x24,L.int .i64 x25,L.int .i64 x26,L.int .i64 x27,L.int .i64 x28,L.int .i64 x29,L.arr .u8 32 x30,L.sl 1 x31,L.arr .u64 4 x32,L.ptr x33,L.int .i64 x34,L.int .i64 x35,L.int .i64 x36,L.own true 68 x37]}),(8,{oc:=[L.int .i64 x2,L.int .i64 x3,L.int .i64 x4,L.int .i64 x5,L.bool x6,L.sl 2 x7,L.sl 33 x8,L.arr .u64 4 x9,L.arr .u64 4 x10,L.int .i64 x11,L.arr .u8 32 x12,L.arr .u8 32 x13,L.int .i64 x14,L.int .i64 x15,L.int .i64 x16,L.int .i64 x17,L.int .i64 x18,L.int .i64 x19,L.int .i64 x20,L.int .i64 x21,L.arr .u8 32 x22,L.sl 1 x23,L.arr .u64 4 x24,L.int .i64 x25,L.int .i64 x26,L.int .i64 x27,L.int .i64 x28,L.int .i64 x29,L.arr .u8 32 x30,L.sl 1 x31,L.arr .u64 4 x32,L.ptr x33,L.int .i64 x34,L.int .i64 x35,L.int .i64 x36,L.own true 68 x37]}),(11,q1 [oI x38])],hv:=0,Hs:=[]}]
  refine iteB h3 (fun c4 h4=>?_) (fun c4 h5=>?_)
  ·obtain rfl:=Zaa h4
   exact afd fol hE (o1 ++ [.c true,.r []]) [] 0 [] (aK c2 c2 (ZcH.snd c3) c4)
  ·obtain ⟨x39,c5,h6⟩:=Zac h5
   obtain ⟨x40,c6,h7⟩:=Zac h6
   obtain ⟨x41,c7,h8⟩:=Zac h7
   obtain rfl:=Zaa h8
   exact afd fol hE (o1 ++ [.c false,.d {ds:=[(4,{oc:=[L.int .i64 x2,L.int .i64 x3,L.int .i64 x4,L.int .i64 x5,L.bool x6,L.sl 2 x7,L.sl 33 x8,L.arr .u64 4 x9,L.arr .u64 4 x10,L.int .i64 x11,L.arr .u8 32 x12,L.arr .u8 32 x13,L.int .i64 x14,L.int .i64 x15,L.int .i64 x16,L.int .i64 x17,L.int .i64 x18,L.int .i64 x19,L.int .i64 x20,L.int .i64 x21,L.arr .u8 32 x22,L.sl 1 x23,L.arr .u64 4 x24,L.int .i64 x25,L.int .i64 x26,L.int .i64 x27,L.int .i64 x28,L.int .i64 x29,L.arr .u8 32 x30,L.sl 1 x31,L.arr .u64 4 x32,L.ptr x33,L.int .i64 x34,L.int .i64 x35,L.int .i64 x36,L.own true 68 x37]}),(9,{oc:=[L.int .i64 x2,L.int .i64 x3,L.int .i64 x4,L.int .i64 x5,L.bool x6,L.sl 2 x7,L.sl 33 x8,L.arr .u64 4 x9,L.arr .u64 4 x10,L.int .i64 x11,L.arr .u8 32 x12,L.arr .u8 32 x13,L.int .i64 x14,L.int .i64 x15,L.int .i64 x16,L.int .i64 x17,L.int .i64 x18,L.int .i64 x19,L.int .i64 x20,L.int .i64 x21,L.arr .u8 32 x22,L.sl 1 x23,L.arr .u64 4 x24,L.int .i64 x25,L.int .i64 x26,L.int .i64 x27,L.int .i64 x28,L.int .i64 x29,L.arr .u8 32 x30,L.sl 1 x31,L.arr .u64 4 x32,L.ptr x33,L.int .i64 x34,L.int .i64 x35,L.int .i64 x36,L.own true 68 x37]}),(11,q1 [.agg x39.ls]),(16,{oc:=[L.int .i64 x2,L.int .i64 x3,L.int .i64 x4,L.int .i64 x5,L.bool x6,L.sl 2 x7,L.sl 33 x8,L.arr .u64 4 x9,L.arr .u64 4 x10,L.int .i64 x11,L.arr .u8 32 x12,L.arr .u8 32 x13,L.int .i64 x14,L.int .i64 x15,L.int .i64 x16,L.int .i64 x17,L.int .i64 x18,L.int .i64 x19,L.int .i64 x20,L.int .i64 x21,L.arr .u8 32 x22,L.sl 1 x23,L.arr .u64 4 x24,L.int .i64 x25,L.int .i64 x26,L.int .i64 x27,L.int .i64 x28,L.int .i64 x29,L.arr .u8 32 x30,L.sl 1 x31,L.arr .u64 4 x32,L.ptr x33,L.int .i64 x34,L.int .i64 x35,L.int .i64 x36,L.own true 68 x37]}),(19,q1 [.agg [L.arr .u64 4 x40]]),(21,{rs:=[.agg [L.arr .u64 4 x41]],m:=2}),(25,{oc:=[L.int .i64 x2,L.int .i64 x3,L.int .i64 x4,L.int .i64 x5,L.bool x6,L.sl 2 x7,L.sl 33 x8,L.arr .u64 4 x9,L.arr .u64 4 x10,L.int .i64 x11,L.arr .u8 32 x12,L.arr .u8 32 x13,L.int .i64 x14,L.int .i64 x15,L.int .i64 x16,L.int .i64 x17,L.int .i64 x18,L.int .i64 x19,L.int .i64 x20,L.int .i64 x21,L.arr .u8 32 x22,L.sl 1 x23,L.arr .u64 4 x24,L.int .i64 x25,L.int .i64 x26,L.int .i64 x27,L.int .i64 x28,L.int .i64 x29,L.arr .u8 32 x30,L.sl 1 x31,L.arr .u64 4 x32,L.ptr x33,L.int .i64 x34,L.int .i64 x35,L.int .i64 x36,L.own true 68 x37]})],hv:=34603008,Hs:=[1048576,34603008]},.r []]) [] 0 [] (aO c2 c2 (ZcH.snd c3) c4 c2 c2 (Zcf.snd c5) (aM c2 (ZcD.snd c6) z0 (eN (2)) (ZdC.snd c7) c2))
noncomputable def ZbS.B:Code:=Tryz.f200.body.getD .skip
noncomputable def ZbS.rs (r:Bool):List CV:=[oB r]
noncomputable def ZbS (N:Nat) (p_0:Zbr) (height_1:Int):Option Bool:=
 optE (Zce N p_0) fun x1=>
 if x1=true then
  if (decide (height_1≥0))=true then
   chk (p_0.Period≠0)<|
   some ((Int.tmod height_1 p_0.Period)==p_0.Offset)
  else
  some false
 else
 some false
theorem ZbS.snd {p_0:Zbr} {height_1:Int} {r:Bool} (h:ZbS N p_0 height_1=some r):SndQ Tryz.prog 200 [.agg p_0.ls,oI height_1] (ZbS.rs r):=fun st=>
 sO ZbS.B Tryz.func200 fun g0 w0 R hE=>by
  unfold ZbS at h
  obtain ⟨x1,c1,h1⟩:=Zac h
  have t1 {Q:Prop} (q:Q):=aI (Zce.snd c1) q
  refine iteB h1 (fun c2 h2=>?_) (fun c2 h3=>?_)
  ·refine iteB h2 (fun c3 h4=>?_) (fun c3 h5=>?_)
   ·obtain ⟨c4,h6⟩:=ZaS h4
    obtain rfl:=Zaa h6
    exact afd fol hE [.r [],.d {ds:=[(1,q1 [oB x1])],hv:=0,Hs:=[]}] [] 0 [] (t1 (aO c2 c2 c2 c3 c3 c3 c3 (aL c4 c3 c3 c3 c3)))
   ·obtain rfl:=Zaa h5
    exact afd fol hE [.r [],.d {ds:=[(1,q1 [oB x1]),(7,wF),(8,wF),(9,wF),(10,wF),(11,wF),(12,wF),(13,wF),(14,yF)],hv:=0,Hs:=[]}] [] 0 [] (t1 (aO c2 c2 c2 c3 c3 c3 c3 (aK c3 c3 c3 c3)))
  ·obtain rfl:=Zaa h3
   exact afd fol hE [.r [],.d {ds:=[(1,q1 [oB x1]),(3,wF),(4,wF),(5,yF),(7,wF),(8,wF),(9,wF),(10,wF),(11,wF),(12,wF),(13,wF),(14,yF)],hv:=0,Hs:=[]}] [] 0 [] (t1 (aO c2 c2 c2 eF eF eF eF (aK eF eF eF eF)))
noncomputable def ZbC.B:Code:=Tryz.f201.body.getD .skip
noncomputable def ZbC.rs (r:Bool×LL):List CV:=[oB r.1]
noncomputable def ZbC (N:Nat) (p_0:Zbr) (id_1_0:List Int) (st:LL):Option (Bool×LL):=
 optE (Zau N (some (List.length st)) 8 [[L.int .i64 p_0.Salt]] (st ++ [[L.own true 1 []]])) fun st1=>
 optE (ZaO N (some (List.length st)) [[L.arr .u8 32 id_1_0]] st1) fun st2=>
 getE (st2[List.length st]?) Zfj fun x3=>
 optE (ZbH N x3) fun x4=>
 optE (Zcb N [[L.str x4]] st2) fun (x5,st6)=>
 some ((bitsOf .and .u8 (List.getD x5 0 0) 1)==1,st6)
theorem ZbC.snd {p_0:Zbr} {id_1_0:List Int} {st:LL} {r:Bool×LL} (h:ZbC N p_0 id_1_0 st=some r):Snd Tryz.prog 201 [.agg p_0.ls,.agg [L.arr .u8 32 id_1_0]] st (ZbC.rs r) r.2:=
 sO ZbC.B Tryz.func201 fun g0 w0 R hE=>by
  unfold ZbC at h
  obtain ⟨st1,c1,h1⟩:=Zac h
  obtain ⟨st2,c2,h2⟩:=Zac h1
  obtain ⟨x3,c3,h3⟩:=ZdR h2
  obtain ⟨x4,c4,h4⟩:=Zac h3
  obtain ⟨⟨x5,st6⟩,c5,h5⟩:=Zac h4
  obtain rfl:=Zaa h5
  exact af fol hE [.r [],.r [(0,{ns:=[0]}),(1,{m:=1})],.r [(4,{st:=st1,fz:=[12]})],.r [(3,{st:=st2,fz:=[16]})],.r [(1,{rs:=[.one (L.str x4)],m:=10,cv:=[.one (L.bx 1 [L.sl 1 x3])]}),(3,{rs:=[.agg [L.arr .u8 32 x5]],st:=st6,fz:=[20]})],.r []] [] 0 [] (aO z0 (eN (1)) (Zau.snd c1) z0 (eN (1)) (ZaO.snd c2) (bO 1 c3 ((bW bN):BVs st2 [L.own true 1 x3] [L.sl 1 x3])) (aM (ZbH.snd c4) z0 (eN (1)) (Zcb.snd c5) (leI 0 0) (ltI 0 32)))
noncomputable def Zag.B:Code:=Tryz.f168.body.getD .skip
noncomputable def Zag.rs (r:Int×LL):List CV:=[oI r.1]
noncomputable def Zag.p4 (N:Nat) (c1_:((Option Nat)×Int×Int×LL)→Option (Int×LL)) (i20:Nat) (height_1 n_31:Int) (names_2:LL) (v2:Int) (st32:LL):Option (Int×LL):=
 c1_ ((some i20),n_31,w64 (v2+1),st32)
noncomputable def Zag.p3 (N:Nat) (c1_:((Option Nat)×Int×Int×LL)→Option (Int×LL)) (i20:Nat) (height_1 n_1:Int) (names_2:LL) (v2:Int) (st29:LL):Option (Int×LL):=
 getE (st29[i20]?) ZaV fun x30=>
 Zag.p4 N c1_ i20 height_1 (w64 (n_1+1)) names_2 v2 (List.set st29 i20 (Zat.lo {x30 with given:=w64 (x30.given+1)}))
noncomputable def Zag.p2 (N:Nat) (c1_:((Option Nat)×Int×Int×LL)→Option (Int×LL)) (i20:Nat) (height_1 n_1:Int) (names_2:LL) (v2:Int) (x19:List Int) (st23:LL):Option (Int×LL):=
 getE (st23[i20]?) ZaV fun x24=>
 optE (ZbC N x24.Plan x19 st23) fun (x25,st26)=>
 if x25=true then
  getE (st26[i20]?) ZaV fun x27=>
  chk (0≤(w64 (Int.tdiv x27.given 64)))<|
  chk ((w64 (Int.tdiv x27.given 64))<(len x27.words))<|
  getE (x27.words[0+(Int.toNat (w64 (Int.tdiv x27.given 64)))]?) Zfr fun x28=>
  chk (0≤(Int.tmod x27.given 64))<|
  Zag.p3 N c1_ i20 height_1 n_1 names_2 v2 (List.set st26 i20 (Zat.lo {x27 with words:=List.set x27.words (0+(Int.toNat (w64 (Int.tdiv x27.given 64)))) [L.int .u64 (bitsOf .or .u64 x28 (shlOf .u64 1 (Int.tmod x27.given 64)))]}))
 else
 Zag.p3 N c1_ i20 height_1 n_1 names_2 v2 st26
noncomputable def Zag.p1 (N:Nat) (height_1:Int) (names_2:LL) (c1_:((Option Nat)×Int×Int×LL)→Option (Int×LL)):((Option Nat)×Int×Int×LL)→Option (Int×LL):=fun (b_17,n_1,v2,st18)=>
 if (decide (v2<(len names_2)))=true then
  chk (0≤v2)<|
  getE (names_2[Int.toNat v2]?) ZeX fun x19=>
  optE b_17 fun i20=>
  getE (st18[i20]?) ZaV fun x21=>
  optE (ZbS N x21.Plan (w64 (height_1+v2))) fun x22=>
  if (!x22)=true then
   Zag.p4 N c1_ i20 height_1 n_1 names_2 v2 st18
  else
  if ((Int.tmod x21.given 64)==0)=true then
   chk (List.length (x21.words ++ [[L.int .u64 0]])*8≤140737488355328)<|
   Zag.p2 N c1_ i20 height_1 n_1 names_2 v2 x19 (List.set (List.set st18 i20 (gs x21.lo 3)) i20 (Zat.lo {x21 with words:=x21.words ++ [[L.int .u64 0]]}))
  else
  Zag.p2 N c1_ i20 height_1 n_1 names_2 v2 x19 st18
 else
 some (n_1,st18)
noncomputable def Zag (N:Nat) (b_0:Option Nat) (height_1:Int) (names_2 st:LL):Option (Int×LL):=
 if (Option.isNone b_0)=true then
  some (0,st)
 else
 loopN (Zag.p1 N height_1 names_2) N (b_0,0,0,st)
noncomputable def Zag.p4.S (i20:Nat) (height_1 n_31:Int) (names_2:LL) (v2:Int) (st32:LL):S:=mkS 79 [(0,sP (some i20)),(1,sI height_1),(7,sI n_31),(12,sV 32 names_2),(13,sI (len names_2)),(14,sI v2)] [] st32
noncomputable def Zag.p3.S (i20:Nat) (height_1 n_1:Int) (names_2:LL) (v2:Int) (st29:LL):S:=mkS 79 [(0,sP (some i20)),(1,sI height_1),(7,sI n_1),(12,sV 32 names_2),(13,sI (len names_2)),(14,sI v2)] [] st29
noncomputable def Zag.p2.S (i20:Nat) (height_1 n_1:Int) (names_2:LL) (v2:Int) (x19:List Int) (st23:LL):S:=mkS 79 [(0,sP (some i20)),(1,sI height_1),(7,sI n_1),(9,sA 9),(12,sV 32 names_2),(13,sI (len names_2)),(14,sI v2)] [(9,.cells [L.arr .u8 32 x19])] st23
noncomputable def Zag.p1.S (b_17:Option Nat) (height_1 n_1:Int) (names_2:LL) (v2:Int) (st18:LL):S:=mkS 79 [(0,sP b_17),(1,sI height_1),(7,sI n_1),(12,sV 32 names_2),(13,sI (len names_2)),(14,sI v2)] [] st18
theorem Zag.p4_ok {i20 height_1 n_31 names_2 v2 st32 r c1_ J1} (h:Zag.p4 N c1_ i20 height_1 n_31 names_2 v2 st32=some r) (hE:En Tryz.f168 g0 w0 (Zag.rs r) r.2 R) (hc1 : ∀b_17 n_1 v2 st18,c1_ (b_17,n_1,v2,st18)=some r→At g0 w0 (Zag.p1.S b_17 height_1 n_1 names_2 v2 st18) J1):At g0 w0 (Zag.p4.S i20 height_1 n_31 names_2 v2 st32) (XK Tryz.prog R [.c (csub Zag.B [1,1,1,0,1,0,0,1,1,1]),.h J1,.b 0,.c (csub Zag.B [1,1,1,1])]):=by
 unfold Zag.p4 at h
 exact an fol [.r []] [0,1,7,12,13,14] [] trivial (hc1 (some i20) n_31 (w64 (v2+1)) st32 h)
theorem Zag.p3_ok {i20 height_1 n_1 names_2 v2 st29 r c1_ J1} (h:Zag.p3 N c1_ i20 height_1 n_1 names_2 v2 st29=some r) (hE:En Tryz.f168 g0 w0 (Zag.rs r) r.2 R) (hc1 : ∀b_17 n_1 v2 st18,c1_ (b_17,n_1,v2,st18)=some r→At g0 w0 (Zag.p1.S b_17 height_1 n_1 names_2 v2 st18) J1):At g0 w0 (Zag.p3.S i20 height_1 n_1 names_2 v2 st29) (XK Tryz.prog R [.c (csub Zag.B [1,1,1,0,1,0,0,1,1,0,0,1,1,1,1]),.b 1,.c (csub Zag.B [1,1,1,0,1,0,0,1,1,1]),.h J1,.b 0,.c (csub Zag.B [1,1,1,1])]):=by
 unfold Zag.p3 at h
 obtain ⟨x30,c37,h1⟩:=Zbl h
 exact aq fol [.r [(3,{oc:=x30.lo}),(7,{oc:=x30.lo})],.r [],.s 4] [0,1,7,12,13,14] [] (aI c37 c37) (Zag.p4_ok h1 hE hc1)
theorem Zag.p2_ok {i20 height_1 n_1 names_2 v2 x19 st23 r c1_ J1} (h:Zag.p2 N c1_ i20 height_1 n_1 names_2 v2 x19 st23=some r) (hE:En Tryz.f168 g0 w0 (Zag.rs r) r.2 R) (hc1 : ∀b_17 n_1 v2 st18,c1_ (b_17,n_1,v2,st18)=some r→At g0 w0 (Zag.p1.S b_17 height_1 n_1 names_2 v2 st18) J1):At g0 w0 (Zag.p2.S i20 height_1 n_1 names_2 v2 x19 st23) (XK Tryz.prog R [.c (csub Zag.B [1,1,1,0,1,0,0,1,1,0,0,1,1,1]),.b 1,.c (csub Zag.B [1,1,1,0,1,0,0,1,1,1]),.h J1,.b 0,.c (csub Zag.B [1,1,1,1])]):=by
 unfold Zag.p2 at h
 obtain ⟨x24,c29,h2⟩:=Zbl h
 obtain ⟨⟨x25,st26⟩,c30,h3⟩:=Zac h2
 let o1:List PS:=[.d {ds:=[(3,{oc:=x24.lo}),(5,{rs:=[oB x25],st:=st26})],hv:=32,Hs:=[32]}]
 refine iteB h3 (fun c31 h4=>?_) (fun c31 h5=>?_)
 ·obtain ⟨x27,c32,h6⟩:=Zbl h4
  obtain ⟨c33,c34,h7⟩:=ck2 h6
  obtain ⟨x28,c35,h8⟩:=Zfq h7
  obtain ⟨c36,h9⟩:=ZaS h8
  exact aqd fol (o1 ++ [.c true,.d {ds:=[(3,{oc:=x27.lo}),(7,{oc:=x27.lo}),(10,{oc:=x27.lo,oe:=[L.int .u64 x28]}),(14,{oc:=x27.lo}),(19,{oc:=x27.lo})],hv:=524288,Hs:=[524288]},.s 6]) [0,1,7,12,13,14] [] (aO c29 (ZbC.snd c30) c31 c32 c32 (neI 64) c33 (aO c34 c35 c32 c32 (neI 64) c36 c33 (aI c34 c32))) (Zag.p3_ok h9 hE hc1)
 ·exact aqd fol (o1 ++ [.c false,.s 6]) [0,1,7,12,13,14] [] (aJ c29 (ZbC.snd c30) c31) (Zag.p3_ok h5 hE hc1)
theorem Zag.p1_ok {b_17 height_1 n_1 names_2 v2 st18 r c1_ J1} (h:Zag.p1 N height_1 names_2 c1_ (b_17,n_1,v2,st18)=some r) (hE:En Tryz.f168 g0 w0 (Zag.rs r) r.2 R) (hc1 : ∀b_17 n_1 v2 st18,c1_ (b_17,n_1,v2,st18)=some r→At g0 w0 (Zag.p1.S b_17 height_1 n_1 names_2 v2 st18) J1):At g0 w0 (Zag.p1.S b_17 height_1 n_1 names_2 v2 st18) (XK Tryz.prog R (.c (csub Zag.B [1,1,1,0,1,0,0]) :: .h J1 :: [.b 0,.c (csub Zag.B [1,1,1,1])])):=by
 unfold Zag.p1 at h
 refine iteB h (fun c20 h10=>?_) (fun c20 h11=>?_)
 ·obtain ⟨c21,h12⟩:=ZaS h10
  obtain ⟨x19,c22,h13⟩:=ZfH h12
  obtain ⟨i20,rfl,h14⟩:=Zac h13
  obtain ⟨x21,c24,h15⟩:=Zbl h14
  obtain ⟨x22,c25,h16⟩:=Zac h15
  let o2:List PS:=[.r [],.c true,.r [(2,{oe:=[L.arr .u8 32 x19]})],.r [(3,{oc:=x21.lo}),(7,q1 [oB x22])]]
  have t1 {Q:Prop} (q:Q):=aN c20 c21 (oD c20) c22 c24 (ZbS.snd c25) q
  refine iteB h16 (fun c26 h17=>?_) (fun c26 h18=>?_)
  ·exact aq fol (o2 ++ [.c true,.s 4]) [0,1,7,12,13,14] [] (t1 c26) (Zag.p4_ok h17 hE hc1)
  ·refine iteB h18 (fun c27 h19=>?_) (fun c27 h20=>?_)
   ·obtain ⟨c28,h21⟩:=ZaS h19
    exact aq fol (o2 ++ [.c false,.r [(3,{oc:=x21.lo})],.c true,.r [(4,{oc:=x21.lo}),(6,{oe:=x21.lo}),(9,{oc:=gs x21.lo 3,mv:=[40]})],.s 6]) [0,1,7,9,12,13,14] [9] (t1 (aO c26 c24 (neI 64) c27 c24 z0 (eN (List.length x21.words)) (aN c24 z0 (eN (1)) c28 (ZbR c24 (gs x21.lo 3)) z0 (eN (List.length (x21.words ++ [[L.int .u64 0]])))))) (Zag.p2_ok h21 hE hc1)
   ·exact aq fol (o2 ++ [.c false,.r [(3,{oc:=x21.lo})],.c false,.s 6]) [0,1,7,9,12,13,14] [9] (t1 (aK c26 c24 (neI 64) c27)) (Zag.p2_ok h20 hE hc1)
 ·obtain rfl:=Zaa h11
  exact af fol hE [.r [],.c false,.r []] [] 0 [] c20
theorem Zag.snd {b_0:Option Nat} {height_1:Int} {names_2:LL} {st:LL} {r:Int×LL} (h:Zag N b_0 height_1 names_2 st=some r):Snd Tryz.prog 168 [.one (L.ptr b_0),oI height_1,.one (L.sl 32 names_2)] st (Zag.rs r) r.2:=
 sO Zag.B Tryz.func168 fun g0 w0 R hE=>by
  unfold Zag at h
  refine iteB h (fun c1 h22=>?_) (fun c1 h23=>?_)
  ·obtain rfl:=Zaa h22
   exact af fol hE [.r [],.r [],.c true,.r []] [] 0 [] c1
  ·exact aq fol [.r [],.r [],.c false,.r [],.r []] [0,1,7,12,13,14] [] c1 (At.loop N (At.loopN (fun y:(Option Nat)×Int×Int×LL=>Zag.p1.S y.1 height_1 y.2.1 names_2 y.2.2.1 y.2.2.2) (fun c J hc y h=>Zag.p1_ok (b_17:=y.1) (n_1:=y.2.1) (v2:=y.2.2.1) (st18:=y.2.2.2) h hE (fun b_17 n_1 v2 st18=>hc (b_17,n_1,v2,st18))) N (b_0,0,0,st) h23))
noncomputable def Zbg.B:Code:=Tryz.f120.body.getD .skip
noncomputable def Zbg.rs (r:Int):List CV:=[oI r]
noncomputable def Zbg (N:Nat) (b_0:Zat):Option Int:=
 some b_0.given
theorem Zbg.snd {b_0:Zat} {r:Int} (h:Zbg N b_0=some r):SndQ Tryz.prog 120 [.one (L.bx 6 b_0.ls)] (Zbg.rs r):=fun st=>
 sO Zbg.B Tryz.func120 fun g0 w0 R hE=>by
  unfold Zbg at h
  obtain rfl:=Zaa h
  exact af fol hE [.r [],.r [],.c false,.r [(3,{oe:=b_0.ls})]] [] 0 [] (aI eF (eO b_0.ls))
noncomputable def Zcx.B:Code:=Tryz.f120.body.getD .skip
noncomputable def Zcx.rs (r:Int×LL):List CV:=[oI r.1]
noncomputable def Zcx (N:Nat) (b_0:Option Nat) (st:LL):Option (Int×LL):=
 if (Option.isNone b_0)=true then
  some (0,st)
 else
 optE b_0 fun i1=>
 getE (st[i1]?) ZaV fun x2=>
 some (x2.given,st)
theorem Zcx.snd {b_0:Option Nat} {st:LL} {r:Int×LL} (h:Zcx N b_0 st=some r):Snd Tryz.prog 120 [.one (L.ptr b_0)] st (Zcx.rs r) r.2:=
 sO Zcx.B Tryz.func120 fun g0 w0 R hE=>by
  unfold Zcx at h
  refine iteB h (fun c1 h1=>?_) (fun c1 h2=>?_)
  ·obtain rfl:=Zaa h1
   exact af fol hE [.r [],.r [],.c true,.r []] [] 0 [] c1
  ·obtain ⟨i1,rfl,h3⟩:=Zac h2
   obtain ⟨x2,c3,h4⟩:=Zbl h3
   obtain rfl:=Zaa h4
   exact af fol hE [.r [],.r [],.c false,.r [(3,{oc:=x2.lo})]] [] 0 [] (aI c1 c3)
noncomputable def ZaY.B:Code:=Tryz.f169.body.getD .skip
noncomputable def ZaY.rs (r:Bool):List CV:=[oB r]
noncomputable def ZaY (N:Nat) (s_0:ZaE):Option Bool:=
 optE (ZbW N s_0.point.work s_0.rules.MinWork) fun x1=>
 some (!x1)
theorem ZaY.snd {s_0:ZaE} {r:Bool} (h:ZaY N s_0=some r):SndQ Tryz.prog 169 [.one (L.bx 172 s_0.ls)] (ZaY.rs r):=fun st=>
 sO ZaY.B Tryz.func169 fun g0 w0 R hE=>by
  unfold ZaY at h
  obtain ⟨x1,c1,h1⟩:=Zac h
  obtain rfl:=Zaa h1
  exact afd fol hE [.r [],.d {ds:=[(4,{oe:=s_0.ls}),(9,{oe:=s_0.ls}),(10,q1 [oB x1])],hv:=0,Hs:=[]}] [] 0 [] (aJ (eO s_0.ls) (eO s_0.ls) (ZbW.snd c1))
noncomputable def ZaJ.B:Code:=Tryz.f107.body.getD .skip
noncomputable def ZaJ.rs (r:Int×LL):List CV:=[oI r.1]
noncomputable def ZaJ.p1 (N:Nat) (now_1:Int) (list_2:LL) (c1_:((Option Nat)×Int×LL)→Option (Int×LL)):((Option Nat)×Int×LL)→Option (Int×LL):=fun (s_121,v1,st122)=>
 if (decide (v1<(len list_2)))=true then
  chk (0≤v1)<|
  getE (list_2[Int.toNat v1]?) ZcT fun x123=>
  optE s_121 fun i124=>
  getE (st122[i124]?) Zbb fun x125 x126 x127 x128 x129 x130 x131 x132 x133 x134 x135 x136 x137 x138 x139 x140 x141 x142 x143 x144 x145 x146 x147 x148 x149 x150 x151 x152 x153 x154 x155 x156 x157 x158 x159 x160=>
  optE (ZbK N (some i124) x123 now_1 st122) fun (x161,st162)=>
  if (!x161)=true then
   some (8,st162)
  else
  getE (st162[i124]?) Zbb fun x163 x164 x165 x166 x167 x168 x169 x170 x171 x172 x173 x174 x175 x176 x177 x178 x179 x180 x181 x182 x183 x184 x185 x186 x187 x188 x189 x190 x191 x192 x193 x194 x195 x196 x197 x198=>
  optE (ZcC N x123) fun x199=>
  optE (Zag N x194 x148 [[L.arr .u8 32 x199]] st162) fun (x200,st201)=>
  getE (st201[i124]?) Zbb fun x202 x203 x204 x205 x206 x207 x208 x209 x210 x211 x212 x213 x214 x215 x216 x217 x218 x219 x220 x221 x222 x223 x224 x225 x226 x227 x228 x229 x230 x231 x232 x233 x234 x235 x236 x237=>
  optE x233 fun i238=>
  getE (st201[i238]?) ZaV fun x239=>
  optE (Zbg N x239) fun x240=>
  if (decide (x240>x235))=true then
   some (3,st201)
  else
  optE (ZaY N (ZaE.mk (Zan.mk x202 x203 x204 x205 x206 x207 x208 x209 x210 (Zah.mk x211 x212 x213 x214 x215 x216)) (ZaF.mk (Zaq.mk (ZaL.mk x217 x218 x219 x220 x221) x222 x223) x224) (ZaF.mk (Zaq.mk (ZaL.mk x225 x226 x227 x228 x229) x230 x231) x232) x239 x234 x235 x236 x237)) fun x241=>
  if x241=true then
   some (0,List.set (List.set st201 i124 [L.int .i64 x202,L.int .i64 x203,L.int .i64 x204,L.int .i64 x205,L.bool x206,L.sl 2 x207,L.sl 33 x208,L.arr .u64 4 x209,L.arr .u64 4 x210,L.int .i64 x211,L.arr .u8 32 x212,L.arr .u8 32 x213,L.int .i64 x214,L.int .i64 x215,L.int .i64 x216,L.int .i64 x217,L.int .i64 x218,L.int .i64 x219,L.int .i64 x220,L.int .i64 x221,L.arr .u8 32 x222,L.sl 1 x223,L.arr .u64 4 x224,L.int .i64 x225,L.int .i64 x226,L.int .i64 x227,L.int .i64 x228,L.int .i64 x229,L.arr .u8 32 x230,L.sl 1 x231,L.arr .u64 4 x232,L.ptr (some i238),L.int .i64 2,L.int .i64 x235,L.int .i64 x236,L.own true 68 x237]) i124 [L.int .i64 x202,L.int .i64 x203,L.int .i64 x204,L.int .i64 x205,L.bool x206,L.sl 2 x207,L.sl 33 x208,L.arr .u64 4 x209,L.arr .u64 4 x210,L.int .i64 x211,L.arr .u8 32 x212,L.arr .u8 32 x213,L.int .i64 x214,L.int .i64 x215,L.int .i64 x216,L.int .i64 x217,L.int .i64 x218,L.int .i64 x219,L.int .i64 x220,L.int .i64 x221,L.arr .u8 32 x222,L.sl 1 x223,L.arr .u64 4 x224,L.int .i64 x217,L.int .i64 x218,L.int .i64 x219,L.int .i64 x220,L.int .i64 x221,L.arr .u8 32 x222,L.sl 1 x223,L.arr .u64 4 x224,L.ptr (some i238),L.int .i64 2,L.int .i64 x235,L.int .i64 x236,L.own true 68 x237])
  else
  c1_ ((some i124),w64 (v1+1),st201)
 else
 some (0,st122)
noncomputable def ZaJ (N:Nat) (s_0:Option Nat) (now_1:Int) (list_2 st:LL):Option (Int×LL):=
 loopN (ZaJ.p1 N now_1 list_2) N (s_0,0,st)
noncomputable def ZaJ.p1.S (s_121:Option Nat) (now_1:Int) (list_2:LL) (v1:Int) (st122:LL):S:=mkS 60 [(0,sP s_121),(1,sI now_1),(10,sV 68 list_2),(11,sI (len list_2)),(12,sI v1)] [] st122
theorem ZaJ.p1_ok {s_121 now_1 list_2 v1 st122 r c1_ J1} (h:ZaJ.p1 N now_1 list_2 c1_ (s_121,v1,st122)=some r) (hE:En Tryz.f107 g0 w0 (ZaJ.rs r) r.2 R) (hc1 : ∀s_121 v1 st122,c1_ (s_121,v1,st122)=some r→At g0 w0 (ZaJ.p1.S s_121 now_1 list_2 v1 st122) J1):At g0 w0 (ZaJ.p1.S s_121 now_1 list_2 v1 st122) (XK Tryz.prog R (.c (csub ZaJ.B [1,0,1,0,0]) :: .h J1 :: [.b 0,.c (csub ZaJ.B [1,1])])):=by
 unfold ZaJ.p1 at h
 refine iteB h (fun c18 h1=>?_) (fun c18 h2=>?_)
 ·obtain ⟨c19,h3⟩:=ZaS h1
  obtain ⟨x123,c20,h4⟩:=Zdm h3
  obtain ⟨i124,rfl,h5⟩:=Zac h4
  obtain ⟨x125,x126,x127,x128,x129,x130,x131,x132,x133,x134,x135,x136,x137,x138,x139,x140,x141,x142,x143,x144,x145,x146,x147,x148,x149,x150,x151,x152,x153,x154,x155,x156,x157,x158,x159,x160,c22,h6⟩:=ZaX h5
  obtain ⟨⟨x161,st162⟩,c23,h7⟩:=Zac h6
  let o1:List PS:=[.r [],.c true,.r [(1,{oe:=x123.ls})],.r [(6,{oc:=[L.int .i64 x125,L.int .i64 x126,L.int .i64 x127,L.int .i64 x128,L.bool x129,L.sl 2 x130,L.sl 33 x131,L.arr .u64 4 x132,L.arr .u64 4 x133,L.int .i64 x134,L.arr .u8 32 x135,L.arr .u8 32 x136,L.int .i64 x137,L.int .i64 x138,L.int .i64 x139,L.int .i64 x140,L.int .i64 x141,L.int .i64 x142,L.int .i64 x143,L.int .i64 x144,L.arr .u8 32 x145,L.sl 1 x146,L.arr .u64 4 x147,L.int .i64 x148,L.int .i64 x149,L.int .i64 x150,L.int .i64 x151,L.int .i64 x152,L.arr .u8 32 x153,L.sl 1 x154,L.arr .u64 4 x155,L.ptr x156,L.int .i64 x157,L.int .i64 x158,L.int .i64 x159,L.own true 68 x160]})],.r [(3,{rs:=[oB x161],st:=st162})]]
  have t1 {Q:Prop} (q:Q):=aN c18 c19 (oD c18) c20 c22 (ZbK.snd c23) q
  refine iteB h7 (fun c24 h8=>?_) (fun c24 h9=>?_)
  ·obtain rfl:=Zaa h8
   exact af fol hE (o1 ++ [.c true,.r []]) [] 0 [] (t1 c24)
  ·obtain ⟨x163,x164,x165,x166,x167,x168,x169,x170,x171,x172,x173,x174,x175,x176,x177,x178,x179,x180,x181,x182,x183,x184,x185,x186,x187,x188,x189,x190,x191,x192,x193,x194,x195,x196,x197,x198,c25,h10⟩:=ZaX h9
   obtain ⟨x199,c26,h11⟩:=Zac h10
   obtain ⟨⟨x200,st201⟩,c27,h12⟩:=Zac h11
   obtain ⟨x202,x203,x204,x205,x206,x207,x208,x209,x210,x211,x212,x213,x214,x215,x216,x217,x218,x219,x220,x221,x222,x223,x224,x225,x226,x227,x228,x229,x230,x231,x232,x233,x234,x235,x236,x237,c28,h13⟩:=ZaX h12
   obtain ⟨i238,rfl,h14⟩:=Zac h13
   obtain ⟨x239,c30,h15⟩:=Zbl h14
   obtain ⟨x240,c31,h16⟩:=Zac h15
   let o2:List PS:=o1 ++ [.c false,.d {ds:=[(3,{oc:=[L.int .i64 x163,L.int .i64 x164,L.int .i64 x165,L.int .i64 x166,L.bool x167,L.sl 2 x168,L.sl 33 x169,L.arr .u64 4 x170,L.arr .u64 4 x171,L.int .i64 x172,L.arr .u8 32 x173,L.arr .u8 32 x174,L.int .i64 x175,L.int .i64 x176,L.int .i64 x177,L.int .i64 x178,L.int .i64 x179,L.int .i64 x180,L.int .i64 x181,L.int .i64 x182,L.arr .u8 32 x183,L.sl 1 x184,L.arr .u64 4 x185,L.int .i64 x186,L.int .i64 x187,L.int .i64 x188,L.int .i64 x189,L.int .i64 x190,L.arr .u8 32 x191,L.sl 1 x192,L.arr .u64 4 x193,L.ptr x194,L.int .i64 x195,L.int .i64 x196,L.int .i64 x197,L.own true 68 x198]}),(6,q1 [.agg [L.arr .u8 32 x199]]),(8,{rs:=[oI x200],st:=st201,fz:=[35]})],hv:=384,Hs:=[128,384]},.d {ds:=[(3,{oc:=[L.int .i64 x202,L.int .i64 x203,L.int .i64 x204,L.int .i64 x205,L.bool x206,L.sl 2 x207,L.sl 33 x208,L.arr .u64 4 x209,L.arr .u64 4 x210,L.int .i64 x211,L.arr .u8 32 x212,L.arr .u8 32 x213,L.int .i64 x214,L.int .i64 x215,L.int .i64 x216,L.int .i64 x217,L.int .i64 x218,L.int .i64 x219,L.int .i64 x220,L.int .i64 x221,L.arr .u8 32 x222,L.sl 1 x223,L.arr .u64 4 x224,L.int .i64 x225,L.int .i64 x226,L.int .i64 x227,L.int .i64 x228,L.int .i64 x229,L.arr .u8 32 x230,L.sl 1 x231,L.arr .u64 4 x232,L.ptr (some i238),L.int .i64 x234,L.int .i64 x235,L.int .i64 x236,L.own true 68 x237]}),(4,{rs:=[oI x240],m:=10,cv:=[.one (L.bx 6 x239.ls)]}),(8,{oc:=[L.int .i64 x202,L.int .i64 x203,L.int .i64 x204,L.int .i64 x205,L.bool x206,L.sl 2 x207,L.sl 33 x208,L.arr .u64 4 x209,L.arr .u64 4 x210,L.int .i64 x211,L.arr .u8 32 x212,L.arr .u8 32 x213,L.int .i64 x214,L.int .i64 x215,L.int .i64 x216,L.int .i64 x217,L.int .i64 x218,L.int .i64 x219,L.int .i64 x220,L.int .i64 x221,L.arr .u8 32 x222,L.sl 1 x223,L.arr .u64 4 x224,L.int .i64 x225,L.int .i64 x226,L.int .i64 x227,L.int .i64 x228,L.int .i64 x229,L.arr .u8 32 x230,L.sl 1 x231,L.arr .u64 4 x232,L.ptr (some i238),L.int .i64 x234,L.int .i64 x235,L.int .i64 x236,L.own true 68 x237]})],hv:=16,Hs:=[16]}]
   have t2 {Q:Prop} (q:Q):=t1 (aO c24 c25 c25 (ZcC.snd c26) z0 (eN (1)) (Zag.snd c27) (aM c28 (bO 6 c30 (Zat.bv x239)) (Zbg.snd c31) c28 c28 q))
   refine iteB h16 (fun c32 h17=>?_) (fun c32 h18=>?_)
   ·obtain rfl:=Zaa h17
    exact afd fol hE (o2 ++ [.c true,.r []]) [] 0 [] (t2 c32)
   ·obtain ⟨x241,c33,h19⟩:=Zac h18
    let o3:List PS:=o2 ++ [.c false,.r [(1,{rs:=[oB x241],m:=10,cv:=[.one (L.bx 172 (ZaE.ls (ZaE.mk (Zan.mk x202 x203 x204 x205 x206 x207 x208 x209 x210 (Zah.mk x211 x212 x213 x214 x215 x216)) (ZaF.mk (Zaq.mk (ZaL.mk x217 x218 x219 x220 x221) x222 x223) x224) (ZaF.mk (Zaq.mk (ZaL.mk x225 x226 x227 x228 x229) x230 x231) x232) x239 x234 x235 x236 x237)))]})]]
    have t3 {Q:Prop} (q:Q):=t2 (aK c32 (bO 172 c28 ((bP (bP (bP (bP (bP (bS (bS (bP (bP (bP (bP (bP (bP (bP (bP (bP (bP (bP (bP (bP (bP (bS (bP (bP (bP (bP (bP (bP (bP (bS (bP (bC 6 c30 (Zat.bv x239) (bP (bP (bP (bW bN)))))))))))))))))))))))))))))))))))):BVs st201 [L.int .i64 x202,L.int .i64 x203,L.int .i64 x204,L.int .i64 x205,L.bool x206,L.sl 2 x207,L.sl 33 x208,L.arr .u64 4 x209,L.arr .u64 4 x210,L.int .i64 x211,L.arr .u8 32 x212,L.arr .u8 32 x213,L.int .i64 x214,L.int .i64 x215,L.int .i64 x216,L.int .i64 x217,L.int .i64 x218,L.int .i64 x219,L.int .i64 x220,L.int .i64 x221,L.arr .u8 32 x222,L.sl 1 x223,L.arr .u64 4 x224,L.int .i64 x225,L.int .i64 x226,L.int .i64 x227,L.int .i64 x228,L.int .i64 x229,L.arr .u8 32 x230,L.sl 1 x231,L.arr .u64 4 x232,L.ptr (some i238),L.int .i64 x234,L.int .i64 x235,L.int .i64 x236,L.own true 68 x237] (ZaE.ls (ZaE.mk (Zan.mk x202 x203 x204 x205 x206 x207 x208 x209 x210 (Zah.mk x211 x212 x213 x214 x215 x216)) (ZaF.mk (Zaq.mk (ZaL.mk x217 x218 x219 x220 x221) x222 x223) x224) (ZaF.mk (Zaq.mk (ZaL.mk x225 x226 x227 x228 x229) x230 x231) x232) x239 x234 x235 x236 x237)))) (ZaY.snd c33) q)
    refine iteB h19 (fun c34 h20=>?_) (fun c34 h21=>?_)
    ·obtain rfl:=Zaa h20
     exact afd fol hE (o3 ++ [.c true,.r [(5,{oc:=[L.int .i64 x202,L.int .i64 x203,L.int .i64 x204,L.int .i64 x205,L.bool x206,L.sl 2 x207,L.sl 33 x208,L.arr .u64 4 x209,L.arr .u64 4 x210,L.int .i64 x211,L.arr .u8 32 x212,L.arr .u8 32 x213,L.int .i64 x214,L.int .i64 x215,L.int .i64 x216,L.int .i64 x217,L.int .i64 x218,L.int .i64 x219,L.int .i64 x220,L.int .i64 x221,L.arr .u8 32 x222,L.sl 1 x223,L.arr .u64 4 x224,L.int .i64 x225,L.int .i64 x226,L.int .i64 x227,L.int .i64 x228,L.int .i64 x229,L.arr .u8 32 x230,L.sl 1 x231,L.arr .u64 4 x232,L.ptr (some i238),L.int .i64 x234,L.int .i64 x235,L.int .i64 x236,L.own true 68 x237]}),(8,{oc:=[L.int .i64 x202,L.int .i64 x203,L.int .i64 x204,L.int .i64 x205,L.bool x206,L.sl 2 x207,L.sl 33 x208,L.arr .u64 4 x209,L.arr .u64 4 x210,L.int .i64 x211,L.arr .u8 32 x212,L.arr .u8 32 x213,L.int .i64 x214,L.int .i64 x215,L.int .i64 x216,L.int .i64 x217,L.int .i64 x218,L.int .i64 x219,L.int .i64 x220,L.int .i64 x221,L.arr .u8 32 x222,L.sl 1 x223,L.arr .u64 4 x224,L.int .i64 x225,L.int .i64 x226,L.int .i64 x227,L.int .i64 x228,L.int .i64 x229,L.arr .u8 32 x230,L.sl 1 x231,L.arr .u64 4 x232,L.ptr (some i238),L.int .i64 x234,L.int .i64 x235,L.int .i64 x236,L.own true 68 x237]}),(11,{oc:=[L.int .i64 x202,L.int .i64 x203,L.int .i64 x204,L.int .i64 x205,L.bool x206,L.sl 2 x207,L.sl 33 x208,L.arr .u64 4 x209,L.arr .u64 4 x210,L.int .i64 x211,L.arr .u8 32 x212,L.arr .u8 32 x213,L.int .i64 x214,L.int .i64 x215,L.int .i64 x216,L.int .i64 x217,L.int .i64 x218,L.int .i64 x219,L.int .i64 x220,L.int .i64 x221,L.arr .u8 32 x222,L.sl 1 x223,L.arr .u64 4 x224,L.int .i64 x225,L.int .i64 x226,L.int .i64 x227,L.int .i64 x228,L.int .i64 x229,L.arr .u8 32 x230,L.sl 1 x231,L.arr .u64 4 x232,L.ptr (some i238),L.int .i64 2,L.int .i64 x235,L.int .i64 x236,L.own true 68 x237]})],.r []]) [] 0 [] (t3 (aK c34 c28 c28 (ZbR c28 [L.int .i64 x202,L.int .i64 x203,L.int .i64 x204,L.int .i64 x205,L.bool x206,L.sl 2 x207,L.sl 33 x208,L.arr .u64 4 x209,L.arr .u64 4 x210,L.int .i64 x211,L.arr .u8 32 x212,L.arr .u8 32 x213,L.int .i64 x214,L.int .i64 x215,L.int .i64 x216,L.int .i64 x217,L.int .i64 x218,L.int .i64 x219,L.int .i64 x220,L.int .i64 x221,L.arr .u8 32 x222,L.sl 1 x223,L.arr .u64 4 x224,L.int .i64 x225,L.int .i64 x226,L.int .i64 x227,L.int .i64 x228,L.int .i64 x229,L.arr .u8 32 x230,L.sl 1 x231,L.arr .u64 4 x232,L.ptr (some i238),L.int .i64 2,L.int .i64 x235,L.int .i64 x236,L.own true 68 x237])))
    ·exact and_ fol (o3 ++ [.c false,.r []]) [0,1,10,11,12] [] (t3 c34) (hc1 (some i124) (w64 (v1+1)) st201 h21)
 ·obtain rfl:=Zaa h2
  exact af fol hE [.r [],.c false,.r []] [] 0 [] c18
theorem ZaJ.snd {s_0:Option Nat} {now_1:Int} {list_2:LL} {st:LL} {r:Int×LL} (h:ZaJ N s_0 now_1 list_2 st=some r):Snd Tryz.prog 107 [.one (L.ptr s_0),oI now_1,.one (L.sl 68 list_2)] st (ZaJ.rs r) r.2:=
 sO ZaJ.B Tryz.func107 fun g0 w0 R hE=>by
  unfold ZaJ at h
  exact aq fol [.r [],.r []] [0,1,10,11,12] [] trivial (At.loop N (At.loopN (fun y:(Option Nat)×Int×LL=>ZaJ.p1.S y.1 now_1 list_2 y.2.1 y.2.2) (fun c J hc y h=>ZaJ.p1_ok (s_121:=y.1) (v1:=y.2.1) (st122:=y.2.2) h hE (fun s_121 v1 st122=>hc (s_121,v1,st122))) N (s_0,0,st) h))
noncomputable def Zca.B:Code:=Tryz.f203.body.getD .skip
noncomputable def Zca.rs (r:Bool):List CV:=[oB r]
noncomputable def Zca (N:Nat) (b_0:Zat) (i_1:Int):Option Bool:=
 chk (0≤(w64 (Int.tdiv i_1 64)))<|
 chk ((w64 (Int.tdiv i_1 64))<(len b_0.words))<|
 getE (b_0.words[Int.toNat (w64 (Int.tdiv i_1 64))]?) Zfr fun x1=>
 chk (0≤(Int.tmod i_1 64))<|
 some ((bitsOf .and .u64 (shrOf .u64 x1 (Int.tmod i_1 64)) 1)==1)
theorem Zca.snd {b_0:Zat} {i_1:Int} {r:Bool} (h:Zca N b_0 i_1=some r):SndQ Tryz.prog 203 [.one (L.bx 6 b_0.ls),oI i_1] (Zca.rs r):=fun st=>
 sO Zca.B Tryz.func203 fun g0 w0 R hE=>by
  unfold Zca at h
  obtain ⟨c1,c2,h1⟩:=ck2 h
  obtain ⟨x1,c3,h2⟩:=Zfq h1
  obtain ⟨c4,h3⟩:=ZaS h2
  obtain rfl:=Zaa h3
  exact af fol hE [.r [],.r [(3,{oe:=b_0.ls}),(7,{oe:=[L.int .u64 x1]})]] [] 0 [] (aN (eO b_0.ls) (neI 64) c1 c2 c3 (neI 64) c4)
noncomputable def ZcR.B:Code:=Tryz.f203.body.getD .skip
noncomputable def ZcR.rs (r:Bool×LL):List CV:=[oB r.1]
noncomputable def ZcR (N:Nat) (b_0:Option Nat) (i_1:Int) (st:LL):Option (Bool×LL):=
 optE b_0 fun i1=>
 getE (st[i1]?) ZaV fun x2=>
 chk (0≤(w64 (Int.tdiv i_1 64)))<|
 chk ((w64 (Int.tdiv i_1 64))<(len x2.words))<|
 getE (x2.words[0+(Int.toNat (w64 (Int.tdiv i_1 64)))]?) Zfr fun x3=>
 chk (0≤(Int.tmod i_1 64))<|
 some ((bitsOf .and .u64 (shrOf .u64 x3 (Int.tmod i_1 64)) 1)==1,st)
theorem ZcR.snd {b_0:Option Nat} {i_1:Int} {st:LL} {r:Bool×LL} (h:ZcR N b_0 i_1 st=some r):Snd Tryz.prog 203 [.one (L.ptr b_0),oI i_1] st (ZcR.rs r) r.2:=
 sO ZcR.B Tryz.func203 fun g0 w0 R hE=>by
  unfold ZcR at h
  obtain ⟨i1,rfl,h1⟩:=Zac h
  obtain ⟨x2,c2,h2⟩:=Zbl h1
  obtain ⟨c3,c4,h3⟩:=ck2 h2
  obtain ⟨x3,c5,h4⟩:=Zfq h3
  obtain ⟨c6,h5⟩:=ZaS h4
  obtain rfl:=Zaa h5
  exact af fol hE [.r [],.r [(3,{oc:=x2.lo}),(7,{oc:=x2.lo,oe:=[L.int .u64 x3]})]] [] 0 [] (aO c2 (neI 64) c3 c4 c5 c2 (neI 64) c6)
noncomputable def ZbV.B:Code:=Tryz.f170.body.getD .skip
noncomputable def ZbV.rs (r:Bool×LL):List CV:=[oB r.1]
noncomputable def ZbV (N:Nat) (b_0:Option Nat) (height_1:Int) (id_2_0:List Int) (st:LL):Option (Bool×LL):=
 if (Option.isNone b_0)=true then
  some (false,st)
 else
 optE b_0 fun i1=>
 getE (st[i1]?) ZaV fun x2=>
 optE (ZbS N x2.Plan height_1) fun x3=>
 if (!x3)=true then
  some (true,st)
 else
 if (decide (x2.met≥x2.given))=true then
  some (false,st)
 else
 optE (Zca N x2 x2.met) fun x4=>
 optE (ZbC N x2.Plan id_2_0 st) fun (x5,st6)=>
 if (!(x4==x5))=true then
  some (false,st6)
 else
 getE (st6[i1]?) ZaV fun x7=>
 some (true,List.set st6 i1 (Zat.lo {x7 with met:=w64 (x7.met+1)}))
theorem ZbV.snd {b_0:Option Nat} {height_1:Int} {id_2_0:List Int} {st:LL} {r:Bool×LL} (h:ZbV N b_0 height_1 id_2_0 st=some r):Snd Tryz.prog 170 [.one (L.ptr b_0),oI height_1,.agg [L.arr .u8 32 id_2_0]] st (ZbV.rs r) r.2:=
 sO ZbV.B Tryz.func170 fun g0 w0 R hE=>by
  unfold ZbV at h
  refine iteB h (fun c1 h1=>?_) (fun c1 h2=>?_)
  ·obtain rfl:=Zaa h1
   exact af fol hE [.r [],.r [],.c true,.r []] [] 0 [] c1
  ·obtain ⟨i1,rfl,h3⟩:=Zac h2
   obtain ⟨x2,c3,h4⟩:=Zbl h3
   obtain ⟨x3,c4,h5⟩:=Zac h4
   let o1:List PS:=[.r [],.r [],.c false,.r [(3,{oc:=x2.lo}),(5,q1 [oB x3])]]
   have t1 {Q:Prop} (q:Q):=aK c1 c3 (ZbS.snd c4) q
   refine iteB h5 (fun c5 h6=>?_) (fun c5 h7=>?_)
   ·obtain rfl:=Zaa h6
    exact af fol hE (o1 ++ [.c true,.r []]) [] 0 [] (t1 c5)
   ·refine iteB h7 (fun c6 h8=>?_) (fun c6 h9=>?_)
    ·obtain rfl:=Zaa h8
     exact afd fol hE (o1 ++ [.c false,.d {ds:=[(3,{oc:=x2.lo}),(7,{oc:=x2.lo}),(10,wF),(11,wF),(12,wF),(13,wF),(14,wF),(15,wF),(16,wF),(17,wF),(18,wF),(19,wF),(20,wF),(21,wF),(22,wF)],hv:=0,Hs:=[]},.c true,.r []]) [] 0 [] (t1 (aO c5 c3 c3 c6 c6 c6 c6 (aO c6 c6 c6 c6 c6 c6 c6 (aK c6 c6 c6 eT))))
    ·obtain ⟨x4,c7,h10⟩:=Zac h9
     obtain ⟨⟨x5,st6⟩,c8,h11⟩:=Zac h10
     let o2:List PS:=o1 ++ [.c false,.d {ds:=[(3,{oc:=x2.lo}),(7,{oc:=x2.lo}),(14,{oc:=x2.lo}),(15,{rs:=[oB x4],m:=10,cv:=[.one (L.bx 6 x2.ls)]}),(19,{oc:=x2.lo}),(21,{rs:=[oB x5],st:=st6}),(23,yF)],hv:=2129920,Hs:=[32768,2129920]}]
     have t2 {Q:Prop} (q:Q):=t1 (aO c5 c3 c3 c6 c6 c6 c6 (aO c6 c3 c6 (bO 6 c3 (Zat.bv x2)) (Zca.snd c7) c6 c6 (aO c6 c6 c6 c6 c6 c3 c6 (aO c3 c6 c6 c6 (ZbC.snd c8) c6 c6 q))))
     refine iteB h11 (fun c9 h12=>?_) (fun c9 h13=>?_)
     ·obtain rfl:=Zaa h12
      exact afd fol hE (o2 ++ [.c true,.r []]) [] 0 [] (t2 c9)
     ·obtain ⟨x7,c10,h14⟩:=Zbl h13
      obtain rfl:=Zaa h14
      exact afd fol hE (o2 ++ [.c false,.r [(3,{oc:=x7.lo}),(7,{oc:=x7.lo})],.r []]) [] 0 [] (t2 (aJ c9 c10 c10))
noncomputable def Zaj.B:Code:=Tryz.f108.body.getD .skip
noncomputable def Zaj.rs (r:Int×LL):List CV:=[oI r.1]
noncomputable def Zaj.p3 (N:Nat) (c1_:((Option Nat)×Int×LL)→Option (Int×LL)) (i126:Nat) (now_1:Int) (list_2:LL) (v1 x197:Int) (v204:Bool) (st245:LL):Option (Int×LL):=
 c1_ ((some i126),w64 (v1+1),st245)
noncomputable def Zaj.p2 (N:Nat) (c1_:((Option Nat)×Int×LL)→Option (Int×LL)) (i126:Nat) (now_1:Int) (list_2:LL) (v1 x197:Int) (v204:Bool) (x125:Zah) (st205:LL):Option (Int×LL):=
 getE (st205[i126]?) Zbb fun x206 x207 x208 x209 x210 x211 x212 x213 x214 x215 x216 x217 x218 x219 x220 x221 x222 x223 x224 x225 x226 x227 x228 x229 x230 x231 x232 x233 x234 x235 x236 x237 x238 x239 x240 x241=>
 chk (List.length (x241 ++ [x125.ls])*96≤140737488355328)<|
 optE x237 fun i242=>
 getE ((List.set (List.set st205 i126 [L.int .i64 x206,L.int .i64 x207,L.int .i64 x208,L.int .i64 x209,L.bool x210,L.sl 2 x211,L.sl 33 x212,L.arr .u64 4 x213,L.arr .u64 4 x214,L.int .i64 x215,L.arr .u8 32 x216,L.arr .u8 32 x217,L.int .i64 x218,L.int .i64 x219,L.int .i64 x220,L.int .i64 x221,L.int .i64 x222,L.int .i64 x223,L.int .i64 x224,L.int .i64 x225,L.arr .u8 32 x226,L.sl 1 x227,L.arr .u64 4 x228,L.int .i64 x229,L.int .i64 x230,L.int .i64 x231,L.int .i64 x232,L.int .i64 x233,L.arr .u8 32 x234,L.sl 1 x235,L.arr .u64 4 x236,L.ptr (some i242),L.int .i64 x238,L.int .i64 x239,L.int .i64 x240,L.gone]) i126 [L.int .i64 x206,L.int .i64 x207,L.int .i64 x208,L.int .i64 x209,L.bool x210,L.sl 2 x211,L.sl 33 x212,L.arr .u64 4 x213,L.arr .u64 4 x214,L.int .i64 x215,L.arr .u8 32 x216,L.arr .u8 32 x217,L.int .i64 x218,L.int .i64 x219,L.int .i64 x220,L.int .i64 x221,L.int .i64 x222,L.int .i64 x223,L.int .i64 x224,L.int .i64 x225,L.arr .u8 32 x226,L.sl 1 x227,L.arr .u64 4 x228,L.int .i64 x229,L.int .i64 x230,L.int .i64 x231,L.int .i64 x232,L.int .i64 x233,L.arr .u8 32 x234,L.sl 1 x235,L.arr .u64 4 x236,L.ptr (some i242),L.int .i64 x238,L.int .i64 x239,L.int .i64 x240,L.own true 68 (x241 ++ [x125.ls])])[i242]?) ZaV fun x243=>
 optE (ZaY N (ZaE.mk (Zan.mk x206 x207 x208 x209 x210 x211 x212 x213 x214 (Zah.mk x215 x216 x217 x218 x219 x220)) (ZaF.mk (Zaq.mk (ZaL.mk x221 x222 x223 x224 x225) x226 x227) x228) (ZaF.mk (Zaq.mk (ZaL.mk x229 x230 x231 x232 x233) x234 x235) x236) x243 x238 x239 x240 (x241 ++ [x125.ls]))) fun x244=>
 if x244=true then
  Zaj.p3 N c1_ i126 now_1 list_2 v1 x197 v204 (List.set (List.set (List.set st205 i126 [L.int .i64 x206,L.int .i64 x207,L.int .i64 x208,L.int .i64 x209,L.bool x210,L.sl 2 x211,L.sl 33 x212,L.arr .u64 4 x213,L.arr .u64 4 x214,L.int .i64 x215,L.arr .u8 32 x216,L.arr .u8 32 x217,L.int .i64 x218,L.int .i64 x219,L.int .i64 x220,L.int .i64 x221,L.int .i64 x222,L.int .i64 x223,L.int .i64 x224,L.int .i64 x225,L.arr .u8 32 x226,L.sl 1 x227,L.arr .u64 4 x228,L.int .i64 x229,L.int .i64 x230,L.int .i64 x231,L.int .i64 x232,L.int .i64 x233,L.arr .u8 32 x234,L.sl 1 x235,L.arr .u64 4 x236,L.ptr (some i242),L.int .i64 x238,L.int .i64 x239,L.int .i64 x240,L.gone]) i126 [L.int .i64 x206,L.int .i64 x207,L.int .i64 x208,L.int .i64 x209,L.bool x210,L.sl 2 x211,L.sl 33 x212,L.arr .u64 4 x213,L.arr .u64 4 x214,L.int .i64 x215,L.arr .u8 32 x216,L.arr .u8 32 x217,L.int .i64 x218,L.int .i64 x219,L.int .i64 x220,L.int .i64 x221,L.int .i64 x222,L.int .i64 x223,L.int .i64 x224,L.int .i64 x225,L.arr .u8 32 x226,L.sl 1 x227,L.arr .u64 4 x228,L.int .i64 x229,L.int .i64 x230,L.int .i64 x231,L.int .i64 x232,L.int .i64 x233,L.arr .u8 32 x234,L.sl 1 x235,L.arr .u64 4 x236,L.ptr (some i242),L.int .i64 x238,L.int .i64 x239,L.int .i64 x240,L.own true 68 (x241 ++ [x125.ls])]) i126 [L.int .i64 x206,L.int .i64 x207,L.int .i64 x208,L.int .i64 x209,L.bool x210,L.sl 2 x211,L.sl 33 x212,L.arr .u64 4 x213,L.arr .u64 4 x214,L.int .i64 x215,L.arr .u8 32 x216,L.arr .u8 32 x217,L.int .i64 x218,L.int .i64 x219,L.int .i64 x220,L.int .i64 x221,L.int .i64 x222,L.int .i64 x223,L.int .i64 x224,L.int .i64 x225,L.arr .u8 32 x226,L.sl 1 x227,L.arr .u64 4 x228,L.int .i64 x229,L.int .i64 x230,L.int .i64 x231,L.int .i64 x232,L.int .i64 x233,L.arr .u8 32 x234,L.sl 1 x235,L.arr .u64 4 x236,L.ptr (some i242),L.int .i64 3,L.int .i64 x239,L.int .i64 x240,L.own true 68 (x241 ++ [x125.ls])])
 else
 Zaj.p3 N c1_ i126 now_1 list_2 v1 x197 v204 (List.set (List.set st205 i126 [L.int .i64 x206,L.int .i64 x207,L.int .i64 x208,L.int .i64 x209,L.bool x210,L.sl 2 x211,L.sl 33 x212,L.arr .u64 4 x213,L.arr .u64 4 x214,L.int .i64 x215,L.arr .u8 32 x216,L.arr .u8 32 x217,L.int .i64 x218,L.int .i64 x219,L.int .i64 x220,L.int .i64 x221,L.int .i64 x222,L.int .i64 x223,L.int .i64 x224,L.int .i64 x225,L.arr .u8 32 x226,L.sl 1 x227,L.arr .u64 4 x228,L.int .i64 x229,L.int .i64 x230,L.int .i64 x231,L.int .i64 x232,L.int .i64 x233,L.arr .u8 32 x234,L.sl 1 x235,L.arr .u64 4 x236,L.ptr (some i242),L.int .i64 x238,L.int .i64 x239,L.int .i64 x240,L.gone]) i126 [L.int .i64 x206,L.int .i64 x207,L.int .i64 x208,L.int .i64 x209,L.bool x210,L.sl 2 x211,L.sl 33 x212,L.arr .u64 4 x213,L.arr .u64 4 x214,L.int .i64 x215,L.arr .u8 32 x216,L.arr .u8 32 x217,L.int .i64 x218,L.int .i64 x219,L.int .i64 x220,L.int .i64 x221,L.int .i64 x222,L.int .i64 x223,L.int .i64 x224,L.int .i64 x225,L.arr .u8 32 x226,L.sl 1 x227,L.arr .u64 4 x228,L.int .i64 x229,L.int .i64 x230,L.int .i64 x231,L.int .i64 x232,L.int .i64 x233,L.arr .u8 32 x234,L.sl 1 x235,L.arr .u64 4 x236,L.ptr (some i242),L.int .i64 x238,L.int .i64 x239,L.int .i64 x240,L.own true 68 (x241 ++ [x125.ls])])
noncomputable def Zaj.p1 (N:Nat) (now_1:Int) (list_2:LL) (c1_:((Option Nat)×Int×LL)→Option (Int×LL)):((Option Nat)×Int×LL)→Option (Int×LL):=fun (s_123,v1,st124)=>
 if (decide (v1<(len list_2)))=true then
  chk (0≤v1)<|
  getE (list_2[Int.toNat v1]?) ZcT fun x125=>
  optE s_123 fun i126=>
  getE (st124[i126]?) Zbb fun x127 x128 x129 x130 x131 x132 x133 x134 x135 x136 x137 x138 x139 x140 x141 x142 x143 x144 x145 x146 x147 x148 x149 x150 x151 x152 x153 x154 x155 x156 x157 x158 x159 x160 x161 x162=>
  optE (ZbK N (some i126) x125 now_1 st124) fun (x163,st164)=>
  if (!x163)=true then
   some (8,st164)
  else
  getE (st164[i126]?) Zbb fun x165 x166 x167 x168 x169 x170 x171 x172 x173 x174 x175 x176 x177 x178 x179 x180 x181 x182 x183 x184 x185 x186 x187 x188 x189 x190 x191 x192 x193 x194 x195 x196 x197 x198 x199 x200=>
  if (x197==2)=true then
   optE (ZcC N x125) fun x201=>
   optE (ZbV N x196 x150 x201 st164) fun (x202,st203)=>
   if (!x202)=true then
    some (8,st203)
   else
   Zaj.p2 N c1_ i126 now_1 list_2 v1 x197 (!x202) x125 st203
  else
  Zaj.p2 N c1_ i126 now_1 list_2 v1 x197 false x125 st164
 else
 some (0,st124)
noncomputable def Zaj (N:Nat) (s_0:Option Nat) (now_1:Int) (list_2 st:LL):Option (Int×LL):=
 loopN (Zaj.p1 N now_1 list_2) N (s_0,0,st)
noncomputable def Zaj.p3.S (i126:Nat) (now_1:Int) (list_2:LL) (v1 x197:Int) (v204:Bool) (st245:LL):S:=mkS 62 [(0,sP (some i126)),(1,sI now_1),(10,sV 68 list_2),(11,sI (len list_2)),(12,sI v1),(29,sP (some i126)),(30,sP (some i126)),(31,.one (.adr (.obj i126) 168)),(32,sI x197),(33,.one (.l (L.bool (x197==2)))),(34,.one (.l (L.bool (x197==2)))),(44,.one (.l (L.bool v204)))] [] st245
noncomputable def Zaj.p2.S (i126:Nat) (now_1:Int) (list_2:LL) (v1 x197:Int) (v204:Bool) (x125:Zah) (st205:LL):S:=mkS 62 [(0,sP (some i126)),(1,sI now_1),(8,sA 8),(10,sV 68 list_2),(11,sI (len list_2)),(12,sI v1),(29,sP (some i126)),(30,sP (some i126)),(31,.one (.adr (.obj i126) 168)),(32,sI x197),(33,.one (.l (L.bool (x197==2)))),(34,.one (.l (L.bool (x197==2)))),(44,.one (.l (L.bool v204)))] [(8,.cells x125.ls)] st205
noncomputable def Zaj.p1.S (s_123:Option Nat) (now_1:Int) (list_2:LL) (v1:Int) (st124:LL):S:=mkS 62 [(0,sP s_123),(1,sI now_1),(10,sV 68 list_2),(11,sI (len list_2)),(12,sI v1)] [] st124
theorem Zaj.p3_ok {i126 now_1 list_2 v1 x197 v204 st245 r c1_ J1} (h:Zaj.p3 N c1_ i126 now_1 list_2 v1 x197 v204 st245=some r) (hE:En Tryz.f108 g0 w0 (Zaj.rs r) r.2 R) (hc1 : ∀s_123 v1 st124,c1_ (s_123,v1,st124)=some r→At g0 w0 (Zaj.p1.S s_123 now_1 list_2 v1 st124) J1):At g0 w0 (Zaj.p3.S i126 now_1 list_2 v1 x197 v204 st245) (XK Tryz.prog R [.c (csub Zaj.B [1,0,1,0,0,1,1,1]),.h J1,.b 0,.c (csub Zaj.B [1,1])]):=by
 unfold Zaj.p3 at h
 exact an fol [.r []] [0,1,10,11,12] [] trivial (hc1 (some i126) (w64 (v1+1)) st245 h)
theorem Zaj.p2_ok {i126 now_1 list_2 v1 x197 v204 x125 st205 r c1_ J1} (h:Zaj.p2 N c1_ i126 now_1 list_2 v1 x197 v204 x125 st205=some r) (hE:En Tryz.f108 g0 w0 (Zaj.rs r) r.2 R) (hc1 : ∀s_123 v1 st124,c1_ (s_123,v1,st124)=some r→At g0 w0 (Zaj.p1.S s_123 now_1 list_2 v1 st124) J1):At g0 w0 (Zaj.p2.S i126 now_1 list_2 v1 x197 v204 x125 st205) (XK Tryz.prog R [.c (csub Zaj.B [1,0,1,0,0,1,1,0,0,1,1,1]),.b 1,.c (csub Zaj.B [1,0,1,0,0,1,1,1]),.h J1,.b 0,.c (csub Zaj.B [1,1])]):=by
 unfold Zaj.p2 at h
 obtain ⟨x206,x207,x208,x209,x210,x211,x212,x213,x214,x215,x216,x217,x218,x219,x220,x221,x222,x223,x224,x225,x226,x227,x228,x229,x230,x231,x232,x233,x234,x235,x236,x237,x238,x239,x240,x241,c31,h1⟩:=ZaX h
 obtain ⟨c32,h2⟩:=ZaS h1
 obtain ⟨i242,rfl,h3⟩:=Zac h2
 obtain ⟨x243,c34,h4⟩:=Zbl h3
 obtain ⟨x244,c35,h5⟩:=Zac h4
 let o1:List PS:=[.d {ds:=[(4,{oc:=[L.int .i64 x206,L.int .i64 x207,L.int .i64 x208,L.int .i64 x209,L.bool x210,L.sl 2 x211,L.sl 33 x212,L.arr .u64 4 x213,L.arr .u64 4 x214,L.int .i64 x215,L.arr .u8 32 x216,L.arr .u8 32 x217,L.int .i64 x218,L.int .i64 x219,L.int .i64 x220,L.int .i64 x221,L.int .i64 x222,L.int .i64 x223,L.int .i64 x224,L.int .i64 x225,L.arr .u8 32 x226,L.sl 1 x227,L.arr .u64 4 x228,L.int .i64 x229,L.int .i64 x230,L.int .i64 x231,L.int .i64 x232,L.int .i64 x233,L.arr .u8 32 x234,L.sl 1 x235,L.arr .u64 4 x236,L.ptr (some i242),L.int .i64 x238,L.int .i64 x239,L.int .i64 x240,L.own true 68 x241]}),(7,{oe:=[L.int .i64 x206,L.int .i64 x207,L.int .i64 x208,L.int .i64 x209,L.bool x210,L.sl 2 x211,L.sl 33 x212,L.arr .u64 4 x213,L.arr .u64 4 x214,L.int .i64 x215,L.arr .u8 32 x216,L.arr .u8 32 x217,L.int .i64 x218,L.int .i64 x219,L.int .i64 x220,L.int .i64 x221,L.int .i64 x222,L.int .i64 x223,L.int .i64 x224,L.int .i64 x225,L.arr .u8 32 x226,L.sl 1 x227,L.arr .u64 4 x228,L.int .i64 x229,L.int .i64 x230,L.int .i64 x231,L.int .i64 x232,L.int .i64 x233,L.arr .u8 32 x234,L.sl 1 x235,L.arr .u64 4 x236,L.ptr (some i242),L.int .i64 x238,L.int .i64 x239,L.int .i64 x240,L.own true 68 x241]}),(10,{oc:=[L.int .i64 x206,L.int .i64 x207,L.int .i64 x208,L.int .i64 x209,L.bool x210,L.sl 2 x211,L.sl 33 x212,L.arr .u64 4 x213,L.arr .u64 4 x214,L.int .i64 x215,L.arr .u8 32 x216,L.arr .u8 32 x217,L.int .i64 x218,L.int .i64 x219,L.int .i64 x220,L.int .i64 x221,L.int .i64 x222,L.int .i64 x223,L.int .i64 x224,L.int .i64 x225,L.arr .u8 32 x226,L.sl 1 x227,L.arr .u64 4 x228,L.int .i64 x229,L.int .i64 x230,L.int .i64 x231,L.int .i64 x232,L.int .i64 x233,L.arr .u8 32 x234,L.sl 1 x235,L.arr .u64 4 x236,L.ptr (some i242),L.int .i64 x238,L.int .i64 x239,L.int .i64 x240,L.gone],mv:=[53]})],hv:=1216,Hs:=[64,192,1216]},.r [(1,{rs:=[oB x244],m:=10,cv:=[.one (L.bx 172 (ZaE.ls (ZaE.mk (Zan.mk x206 x207 x208 x209 x210 x211 x212 x213 x214 (Zah.mk x215 x216 x217 x218 x219 x220)) (ZaF.mk (Zaq.mk (ZaL.mk x221 x222 x223 x224 x225) x226 x227) x228) (ZaF.mk (Zaq.mk (ZaL.mk x229 x230 x231 x232 x233) x234 x235) x236) x243 x238 x239 x240 (x241 ++ [x125.ls]))))]})]]
 have t1 {Q:Prop} (q:Q):=aO c31 c31 z0 (eN (List.length x241)) c31 z0 (eN (1)) (aN c32 (ZbR c31 [L.int .i64 x206,L.int .i64 x207,L.int .i64 x208,L.int .i64 x209,L.bool x210,L.sl 2 x211,L.sl 33 x212,L.arr .u64 4 x213,L.arr .u64 4 x214,L.int .i64 x215,L.arr .u8 32 x216,L.arr .u8 32 x217,L.int .i64 x218,L.int .i64 x219,L.int .i64 x220,L.int .i64 x221,L.int .i64 x222,L.int .i64 x223,L.int .i64 x224,L.int .i64 x225,L.arr .u8 32 x226,L.sl 1 x227,L.arr .u64 4 x228,L.int .i64 x229,L.int .i64 x230,L.int .i64 x231,L.int .i64 x232,L.int .i64 x233,L.arr .u8 32 x234,L.sl 1 x235,L.arr .u64 4 x236,L.ptr (some i242),L.int .i64 x238,L.int .i64 x239,L.int .i64 x240,L.gone]) z0 (eN (List.length (x241 ++ [x125.ls]))) (bO 172 (ZbR (ZbR c31 [L.int .i64 x206,L.int .i64 x207,L.int .i64 x208,L.int .i64 x209,L.bool x210,L.sl 2 x211,L.sl 33 x212,L.arr .u64 4 x213,L.arr .u64 4 x214,L.int .i64 x215,L.arr .u8 32 x216,L.arr .u8 32 x217,L.int .i64 x218,L.int .i64 x219,L.int .i64 x220,L.int .i64 x221,L.int .i64 x222,L.int .i64 x223,L.int .i64 x224,L.int .i64 x225,L.arr .u8 32 x226,L.sl 1 x227,L.arr .u64 4 x228,L.int .i64 x229,L.int .i64 x230,L.int .i64 x231,L.int .i64 x232,L.int .i64 x233,L.arr .u8 32 x234,L.sl 1 x235,L.arr .u64 4 x236,L.ptr (some i242),L.int .i64 x238,L.int .i64 x239,L.int .i64 x240,L.gone]) [L.int .i64 x206,L.int .i64 x207,L.int .i64 x208,L.int .i64 x209,L.bool x210,L.sl 2 x211,L.sl 33 x212,L.arr .u64 4 x213,L.arr .u64 4 x214,L.int .i64 x215,L.arr .u8 32 x216,L.arr .u8 32 x217,L.int .i64 x218,L.int .i64 x219,L.int .i64 x220,L.int .i64 x221,L.int .i64 x222,L.int .i64 x223,L.int .i64 x224,L.int .i64 x225,L.arr .u8 32 x226,L.sl 1 x227,L.arr .u64 4 x228,L.int .i64 x229,L.int .i64 x230,L.int .i64 x231,L.int .i64 x232,L.int .i64 x233,L.arr .u8 32 x234,L.sl 1 x235,L.arr .u64 4 x236,L.ptr (some i242),L.int .i64 x238,L.int .i64 x239,L.int .i64 x240,L.own true 68 (x241 ++ [x125.ls])]) ((bP (bP (bP (bP (bP (bS (bS (bP (bP (bP (bP (bP (bP (bP (bP (bP (bP (bP (bP (bP (bP (bS (bP (bP (bP (bP (bP (bP (bP (bS (bP (bC 6 c34 (Zat.bv x243) (bP (bP (bP (bW bN)))))))))))))))))))))))))))))))))))):BVs (List.set (List.set st205 i126 [L.int .i64 x206,L.int .i64 x207,L.int .i64 x208,L.int .i64 x209,L.bool x210,L.sl 2 x211,L.sl 33 x212,L.arr .u64 4 x213,L.arr .u64 4 x214,L.int .i64 x215,L.arr .u8 32 x216,L.arr .u8 32 x217,L.int .i64 x218,L.int .i64 x219,L.int .i64 x220,L.int .i64 x221,L.int .i64 x222,L.int .i64 x223,L.int .i64 x224,L.int .i64 x225,L.arr .u8 32 x226,L.sl 1 x227,L.arr .u64 4 x228,L.int .i64 x229,L.int .i64 x230,L.int .i64 x231,L.int .i64 x232,L.int .i64 x233,L.arr .u8 32 x234,L.sl 1 x235,L.arr .u64 4 x236,L.ptr (some i242),L.int .i64 x238,L.int .i64 x239,L.int .i64 x240,L.gone]) i126 [L.int .i64 x206,L.int .i64 x207,L.int .i64 x208,L.int .i64 x209,L.bool x210,L.sl 2 x211,L.sl 33 x212,L.arr .u64 4 x213,L.arr .u64 4 x214,L.int .i64 x215,L.arr .u8 32 x216,L.arr .u8 32 x217,L.int .i64 x218,L.int .i64 x219,L.int .i64 x220,L.int .i64 x221,L.int .i64 x222,L.int .i64 x223,L.int .i64 x224,L.int .i64 x225,L.arr .u8 32 x226,L.sl 1 x227,L.arr .u64 4 x228,L.int .i64 x229,L.int .i64 x230,L.int .i64 x231,L.int .i64 x232,L.int .i64 x233,L.arr .u8 32 x234,L.sl 1 x235,L.arr .u64 4 x236,L.ptr (some i242),L.int .i64 x238,L.int .i64 x239,L.int .i64 x240,L.own true 68 (x241 ++ [x125.ls])]) [L.int .i64 x206,L.int .i64 x207,L.int .i64 x208,L.int .i64 x209,L.bool x210,L.sl 2 x211,L.sl 33 x212,L.arr .u64 4 x213,L.arr .u64 4 x214,L.int .i64 x215,L.arr .u8 32 x216,L.arr .u8 32 x217,L.int .i64 x218,L.int .i64 x219,L.int .i64 x220,L.int .i64 x221,L.int .i64 x222,L.int .i64 x223,L.int .i64 x224,L.int .i64 x225,L.arr .u8 32 x226,L.sl 1 x227,L.arr .u64 4 x228,L.int .i64 x229,L.int .i64 x230,L.int .i64 x231,L.int .i64 x232,L.int .i64 x233,L.arr .u8 32 x234,L.sl 1 x235,L.arr .u64 4 x236,L.ptr (some i242),L.int .i64 x238,L.int .i64 x239,L.int .i64 x240,L.own true 68 (x241 ++ [x125.ls])] (ZaE.ls (ZaE.mk (Zan.mk x206 x207 x208 x209 x210 x211 x212 x213 x214 (Zah.mk x215 x216 x217 x218 x219 x220)) (ZaF.mk (Zaq.mk (ZaL.mk x221 x222 x223 x224 x225) x226 x227) x228) (ZaF.mk (Zaq.mk (ZaL.mk x229 x230 x231 x232 x233) x234 x235) x236) x243 x238 x239 x240 (x241 ++ [x125.ls]))))) (ZaY.snd c35) q)
 refine iteB h5 (fun c36 h6=>?_) (fun c36 h7=>?_)
 ·exact aqd fol (o1 ++ [.c true,.r [(3,{oc:=[L.int .i64 x206,L.int .i64 x207,L.int .i64 x208,L.int .i64 x209,L.bool x210,L.sl 2 x211,L.sl 33 x212,L.arr .u64 4 x213,L.arr .u64 4 x214,L.int .i64 x215,L.arr .u8 32 x216,L.arr .u8 32 x217,L.int .i64 x218,L.int .i64 x219,L.int .i64 x220,L.int .i64 x221,L.int .i64 x222,L.int .i64 x223,L.int .i64 x224,L.int .i64 x225,L.arr .u8 32 x226,L.sl 1 x227,L.arr .u64 4 x228,L.int .i64 x229,L.int .i64 x230,L.int .i64 x231,L.int .i64 x232,L.int .i64 x233,L.arr .u8 32 x234,L.sl 1 x235,L.arr .u64 4 x236,L.ptr (some i242),L.int .i64 x238,L.int .i64 x239,L.int .i64 x240,L.own true 68 (x241 ++ [x125.ls])]})],.s 4]) [0,1,10,11,12,29,30,31,32,33,34,44] [] (t1 (aI c36 (ZbR (ZbR c31 [L.int .i64 x206,L.int .i64 x207,L.int .i64 x208,L.int .i64 x209,L.bool x210,L.sl 2 x211,L.sl 33 x212,L.arr .u64 4 x213,L.arr .u64 4 x214,L.int .i64 x215,L.arr .u8 32 x216,L.arr .u8 32 x217,L.int .i64 x218,L.int .i64 x219,L.int .i64 x220,L.int .i64 x221,L.int .i64 x222,L.int .i64 x223,L.int .i64 x224,L.int .i64 x225,L.arr .u8 32 x226,L.sl 1 x227,L.arr .u64 4 x228,L.int .i64 x229,L.int .i64 x230,L.int .i64 x231,L.int .i64 x232,L.int .i64 x233,L.arr .u8 32 x234,L.sl 1 x235,L.arr .u64 4 x236,L.ptr (some i242),L.int .i64 x238,L.int .i64 x239,L.int .i64 x240,L.gone]) [L.int .i64 x206,L.int .i64 x207,L.int .i64 x208,L.int .i64 x209,L.bool x210,L.sl 2 x211,L.sl 33 x212,L.arr .u64 4 x213,L.arr .u64 4 x214,L.int .i64 x215,L.arr .u8 32 x216,L.arr .u8 32 x217,L.int .i64 x218,L.int .i64 x219,L.int .i64 x220,L.int .i64 x221,L.int .i64 x222,L.int .i64 x223,L.int .i64 x224,L.int .i64 x225,L.arr .u8 32 x226,L.sl 1 x227,L.arr .u64 4 x228,L.int .i64 x229,L.int .i64 x230,L.int .i64 x231,L.int .i64 x232,L.int .i64 x233,L.arr .u8 32 x234,L.sl 1 x235,L.arr .u64 4 x236,L.ptr (some i242),L.int .i64 x238,L.int .i64 x239,L.int .i64 x240,L.own true 68 (x241 ++ [x125.ls])]))) (Zaj.p3_ok h6 hE hc1)
 ·exact aqd fol (o1 ++ [.c false,.s 4]) [0,1,10,11,12,29,30,31,32,33,34,44] [] (t1 c36) (Zaj.p3_ok h7 hE hc1)
theorem Zaj.p1_ok {s_123 now_1 list_2 v1 st124 r c1_ J1} (h:Zaj.p1 N now_1 list_2 c1_ (s_123,v1,st124)=some r) (hE:En Tryz.f108 g0 w0 (Zaj.rs r) r.2 R) (hc1 : ∀s_123 v1 st124,c1_ (s_123,v1,st124)=some r→At g0 w0 (Zaj.p1.S s_123 now_1 list_2 v1 st124) J1):At g0 w0 (Zaj.p1.S s_123 now_1 list_2 v1 st124) (XK Tryz.prog R (.c (csub Zaj.B [1,0,1,0,0]) :: .h J1 :: [.b 0,.c (csub Zaj.B [1,1])])):=by
 unfold Zaj.p1 at h
 refine iteB h (fun c19 h8=>?_) (fun c19 h9=>?_)
 ·obtain ⟨c20,h10⟩:=ZaS h8
  obtain ⟨x125,c21,h11⟩:=Zdm h10
  obtain ⟨i126,rfl,h12⟩:=Zac h11
  obtain ⟨x127,x128,x129,x130,x131,x132,x133,x134,x135,x136,x137,x138,x139,x140,x141,x142,x143,x144,x145,x146,x147,x148,x149,x150,x151,x152,x153,x154,x155,x156,x157,x158,x159,x160,x161,x162,c23,h13⟩:=ZaX h12
  obtain ⟨⟨x163,st164⟩,c24,h14⟩:=Zac h13
  let o2:List PS:=[.r [],.c true,.r [(1,{oe:=x125.ls})],.r [(6,{oc:=[L.int .i64 x127,L.int .i64 x128,L.int .i64 x129,L.int .i64 x130,L.bool x131,L.sl 2 x132,L.sl 33 x133,L.arr .u64 4 x134,L.arr .u64 4 x135,L.int .i64 x136,L.arr .u8 32 x137,L.arr .u8 32 x138,L.int .i64 x139,L.int .i64 x140,L.int .i64 x141,L.int .i64 x142,L.int .i64 x143,L.int .i64 x144,L.int .i64 x145,L.int .i64 x146,L.arr .u8 32 x147,L.sl 1 x148,L.arr .u64 4 x149,L.int .i64 x150,L.int .i64 x151,L.int .i64 x152,L.int .i64 x153,L.int .i64 x154,L.arr .u8 32 x155,L.sl 1 x156,L.arr .u64 4 x157,L.ptr x158,L.int .i64 x159,L.int .i64 x160,L.int .i64 x161,L.own true 68 x162]})]]
  have t2 {Q:Prop} (q:Q):=aN c19 c20 (oD c19) c21 c23 (ZbK.snd c24) q
  refine iteB h14 (fun c25 h15=>?_) (fun c25 h16=>?_)
  ·obtain rfl:=Zaa h15
   exact afd fol hE (o2 ++ [.d {ds:=[(3,{rs:=[oB x163],st:=st164}),(6,wF),(7,wF),(8,wF),(9,wF),(10,wF),(11,wF),(21,wF)],hv:=8,Hs:=[8]},.c true,.r []]) [] 0 [] (t2 (aO (not_false (Zbs c25)) (not_false (Zbs c25)) (not_false (Zbs c25)) (not_false (Zbs c25)) (not_false (Zbs c25)) (not_false (Zbs c25)) (not_false (Zbs c25)) (aI (not_false (Zbs c25)) eT)))
  ·obtain ⟨x165,x166,x167,x168,x169,x170,x171,x172,x173,x174,x175,x176,x177,x178,x179,x180,x181,x182,x183,x184,x185,x186,x187,x188,x189,x190,x191,x192,x193,x194,x195,x196,x197,x198,x199,x200,c26,h17⟩:=ZaX h16
   have t3 {Q:Prop} (q:Q):=t2 (aO (not_true (Zbn c25)) (not_true (Zbn c25)) (not_true (Zbn c25)) (not_true (Zbn c25)) c26 (not_true (Zbn c25)) (not_true (Zbn c25)) q)
   refine iteB h17 (fun c27 h18=>?_) (fun c27 h19=>?_)
   ·obtain ⟨x201,c28,h20⟩:=Zac h18
    obtain ⟨⟨x202,st203⟩,c29,h21⟩:=Zac h20
    let o3:List PS:=o2 ++ [.d {ds:=[(3,{rs:=[oB x163],st:=st164}),(9,{oc:=[L.int .i64 x165,L.int .i64 x166,L.int .i64 x167,L.int .i64 x168,L.bool x169,L.sl 2 x170,L.sl 33 x171,L.arr .u64 4 x172,L.arr .u64 4 x173,L.int .i64 x174,L.arr .u8 32 x175,L.arr .u8 32 x176,L.int .i64 x177,L.int .i64 x178,L.int .i64 x179,L.int .i64 x180,L.int .i64 x181,L.int .i64 x182,L.int .i64 x183,L.int .i64 x184,L.arr .u8 32 x185,L.sl 1 x186,L.arr .u64 4 x187,L.int .i64 x188,L.int .i64 x189,L.int .i64 x190,L.int .i64 x191,L.int .i64 x192,L.arr .u8 32 x193,L.sl 1 x194,L.arr .u64 4 x195,L.ptr x196,L.int .i64 x197,L.int .i64 x198,L.int .i64 x199,L.own true 68 x200]}),(15,{oc:=[L.int .i64 x165,L.int .i64 x166,L.int .i64 x167,L.int .i64 x168,L.bool x169,L.sl 2 x170,L.sl 33 x171,L.arr .u64 4 x172,L.arr .u64 4 x173,L.int .i64 x174,L.arr .u8 32 x175,L.arr .u8 32 x176,L.int .i64 x177,L.int .i64 x178,L.int .i64 x179,L.int .i64 x180,L.int .i64 x181,L.int .i64 x182,L.int .i64 x183,L.int .i64 x184,L.arr .u8 32 x185,L.sl 1 x186,L.arr .u64 4 x187,L.int .i64 x188,L.int .i64 x189,L.int .i64 x190,L.int .i64 x191,L.int .i64 x192,L.arr .u8 32 x193,L.sl 1 x194,L.arr .u64 4 x195,L.ptr x196,L.int .i64 x197,L.int .i64 x198,L.int .i64 x199,L.own true 68 x200]}),(18,q1 [.agg [L.arr .u8 32 x201]]),(19,{rs:=[oB x202],st:=st203}),(22,yF)],hv:=524296,Hs:=[8,524296]}]
    have t4 {Q:Prop} (q:Q):=t3 (aO c27 c27 c27 c27 c26 c27 c27 (aO c27 (ZcC.snd c28) c27 (ZbV.snd c29) c27 (not_true (Zbn c25)) c27 (aI (not_true (Zbn c25)) q)))
    refine iteB h21 (fun c30 h22=>?_) (fun c30 h23=>?_)
    ·obtain rfl:=Zaa h22
     exact afd fol hE (o3 ++ [.c true,.r []]) [] 0 [] (t4 c30)
    ·exact aqd fol (o3 ++ [.c false,.s 6]) [0,1,8,10,11,12,29,30,31,32,33,34,44] [8] (t4 c30) (Zaj.p2_ok h23 hE hc1)
   ·exact aqd fol (o2 ++ [.d {ds:=[(3,{rs:=[oB x163],st:=st164}),(9,{oc:=[L.int .i64 x165,L.int .i64 x166,L.int .i64 x167,L.int .i64 x168,L.bool x169,L.sl 2 x170,L.sl 33 x171,L.arr .u64 4 x172,L.arr .u64 4 x173,L.int .i64 x174,L.arr .u8 32 x175,L.arr .u8 32 x176,L.int .i64 x177,L.int .i64 x178,L.int .i64 x179,L.int .i64 x180,L.int .i64 x181,L.int .i64 x182,L.int .i64 x183,L.int .i64 x184,L.arr .u8 32 x185,L.sl 1 x186,L.arr .u64 4 x187,L.int .i64 x188,L.int .i64 x189,L.int .i64 x190,L.int .i64 x191,L.int .i64 x192,L.arr .u8 32 x193,L.sl 1 x194,L.arr .u64 4 x195,L.ptr x196,L.int .i64 x197,L.int .i64 x198,L.int .i64 x199,L.own true 68 x200]}),(12,wF),(13,wF),(14,wF),(15,wF),(16,wF),(17,wF),(18,wF),(19,wF),(20,wF),(21,yF),(22,yF)],hv:=8,Hs:=[8]},.c false,.s 6]) [0,1,8,10,11,12,29,30,31,32,33,34,44] [8] (t3 (aO c27 c27 c27 c27 c27 c27 c27 (aM c27 c27 (not_true (Zbn c25)) c27 (not_true (Zbn c25)) eF))) (Zaj.p2_ok h19 hE hc1)
 ·obtain rfl:=Zaa h9
  exact af fol hE [.r [],.c false,.r []] [] 0 [] c19
theorem Zaj.snd {s_0:Option Nat} {now_1:Int} {list_2:LL} {st:LL} {r:Int×LL} (h:Zaj N s_0 now_1 list_2 st=some r):Snd Tryz.prog 108 [.one (L.ptr s_0),oI now_1,.one (L.sl 68 list_2)] st (Zaj.rs r) r.2:=
 sO Zaj.B Tryz.func108 fun g0 w0 R hE=>by
  unfold Zaj at h
  exact aq fol [.r [],.r []] [0,1,10,11,12] [] trivial (At.loop N (At.loopN (fun y:(Option Nat)×Int×LL=>Zaj.p1.S y.1 now_1 list_2 y.2.1 y.2.2) (fun c J hc y h=>Zaj.p1_ok (s_123:=y.1) (v1:=y.2.1) (st124:=y.2.2) h hE (fun s_123 v1 st124=>hc (s_123,v1,st124))) N (s_0,0,st) h))
noncomputable def Zbz.B:Code:=Tryz.f109.body.getD .skip
noncomputable def Zbz.rs (r:LL×Int×LL):List CV:=[.row true 68 r.1,oI r.2.1]
noncomputable def Zbz (N:Nat) (s_0:Option Nat) (e_1:Int) (st:LL):Option (LL×Int×LL):=
 optE s_0 fun i1=>
 getE (st[i1]?) Zbb fun x2 x3 x4 x5 x6 x7 x8 x9 x10 x11 x12 x13 x14 x15 x16 x17 x18 x19 x20 x21 x22 x23 x24 x25 x26 x27 x28 x29 x30 x31 x32 x33 x34 x35 x36 x37=>
 some ([],e_1,List.set (List.set (List.set st i1 [L.int .i64 x2,L.int .i64 x3,L.int .i64 x4,L.int .i64 x5,L.bool x6,L.sl 2 x7,L.sl 33 x8,L.arr .u64 4 x9,L.arr .u64 4 x10,L.int .i64 x11,L.arr .u8 32 x12,L.arr .u8 32 x13,L.int .i64 x14,L.int .i64 x15,L.int .i64 x16,L.int .i64 x17,L.int .i64 x18,L.int .i64 x19,L.int .i64 x20,L.int .i64 x21,L.arr .u8 32 x22,L.sl 1 x23,L.arr .u64 4 x24,L.int .i64 x25,L.int .i64 x26,L.int .i64 x27,L.int .i64 x28,L.int .i64 x29,L.arr .u8 32 x30,L.sl 1 x31,L.arr .u64 4 x32,L.ptr x33,L.int .i64 x34,L.int .i64 x35,L.int .i64 x36,L.own true 68 (List.replicate (List.length x37) (Zah.ls (Zah.mk 0 (List.replicate 32 0) (List.replicate 32 0) 0 0 0)))]) i1 [L.int .i64 x2,L.int .i64 x3,L.int .i64 x4,L.int .i64 x5,L.bool x6,L.sl 2 x7,L.sl 33 x8,L.arr .u64 4 x9,L.arr .u64 4 x10,L.int .i64 x11,L.arr .u8 32 x12,L.arr .u8 32 x13,L.int .i64 x14,L.int .i64 x15,L.int .i64 x16,L.int .i64 x17,L.int .i64 x18,L.int .i64 x19,L.int .i64 x20,L.int .i64 x21,L.arr .u8 32 x22,L.sl 1 x23,L.arr .u64 4 x24,L.int .i64 x25,L.int .i64 x26,L.int .i64 x27,L.int .i64 x28,L.int .i64 x29,L.arr .u8 32 x30,L.sl 1 x31,L.arr .u64 4 x32,L.ptr x33,L.int .i64 0,L.int .i64 x35,L.int .i64 x36,L.own true 68 (List.replicate (List.length x37) (Zah.ls (Zah.mk 0 (List.replicate 32 0) (List.replicate 32 0) 0 0 0)))]) i1 [L.int .i64 x2,L.int .i64 x3,L.int .i64 x4,L.int .i64 x5,L.bool x6,L.sl 2 x7,L.sl 33 x8,L.arr .u64 4 x9,L.arr .u64 4 x10,L.int .i64 x11,L.arr .u8 32 x12,L.arr .u8 32 x13,L.int .i64 x14,L.int .i64 x15,L.int .i64 x16,L.int .i64 x17,L.int .i64 x18,L.int .i64 x19,L.int .i64 x20,L.int .i64 x21,L.arr .u8 32 x22,L.sl 1 x23,L.arr .u64 4 x24,L.int .i64 x25,L.int .i64 x26,L.int .i64 x27,L.int .i64 x28,L.int .i64 x29,L.arr .u8 32 x30,L.sl 1 x31,L.arr .u64 4 x32,L.ptr x33,L.int .i64 0,L.int .i64 x35,L.int .i64 x36,L.own true 68 []])
theorem Zbz.snd {s_0:Option Nat} {e_1:Int} {st:LL} {r:LL×Int×LL} (h:Zbz N s_0 e_1 st=some r):Snd Tryz.prog 109 [.one (L.ptr s_0),oI e_1] st (Zbz.rs r) r.2.2:=
 sO Zbz.B Tryz.func109 fun g0 w0 R hE=>by
  unfold Zbz at h
  obtain ⟨i1,rfl,h1⟩:=Zac h
  obtain ⟨x2,x3,x4,x5,x6,x7,x8,x9,x10,x11,x12,x13,x14,x15,x16,x17,x18,x19,x20,x21,x22,x23,x24,x25,x26,x27,x28,x29,x30,x31,x32,x33,x34,x35,x36,x37,c2,h2⟩:=ZaX h1
  obtain rfl:=Zaa h2
  exact af fol hE [.r [(0,{m:=2})],.r [(3,{oc:=[L.int .i64 x2,L.int .i64 x3,L.int .i64 x4,L.int .i64 x5,L.bool x6,L.sl 2 x7,L.sl 33 x8,L.arr .u64 4 x9,L.arr .u64 4 x10,L.int .i64 x11,L.arr .u8 32 x12,L.arr .u8 32 x13,L.int .i64 x14,L.int .i64 x15,L.int .i64 x16,L.int .i64 x17,L.int .i64 x18,L.int .i64 x19,L.int .i64 x20,L.int .i64 x21,L.arr .u8 32 x22,L.sl 1 x23,L.arr .u64 4 x24,L.int .i64 x25,L.int .i64 x26,L.int .i64 x27,L.int .i64 x28,L.int .i64 x29,L.arr .u8 32 x30,L.sl 1 x31,L.arr .u64 4 x32,L.ptr x33,L.int .i64 x34,L.int .i64 x35,L.int .i64 x36,L.own true 68 x37]}),(4,{oc:=[L.int .i64 x2,L.int .i64 x3,L.int .i64 x4,L.int .i64 x5,L.bool x6,L.sl 2 x7,L.sl 33 x8,L.arr .u64 4 x9,L.arr .u64 4 x10,L.int .i64 x11,L.arr .u8 32 x12,L.arr .u8 32 x13,L.int .i64 x14,L.int .i64 x15,L.int .i64 x16,L.int .i64 x17,L.int .i64 x18,L.int .i64 x19,L.int .i64 x20,L.int .i64 x21,L.arr .u8 32 x22,L.sl 1 x23,L.arr .u64 4 x24,L.int .i64 x25,L.int .i64 x26,L.int .i64 x27,L.int .i64 x28,L.int .i64 x29,L.arr .u8 32 x30,L.sl 1 x31,L.arr .u64 4 x32,L.ptr x33,L.int .i64 x34,L.int .i64 x35,L.int .i64 x36,L.own true 68 x37],oe:=[L.int .i64 0,L.arr .u8 32 (List.replicate 32 0),L.arr .u8 32 (List.replicate 32 0),L.int .i64 0,L.int .i64 0,L.int .i64 0],m:=11})],.r [(4,{oc:=[L.int .i64 x2,L.int .i64 x3,L.int .i64 x4,L.int .i64 x5,L.bool x6,L.sl 2 x7,L.sl 33 x8,L.arr .u64 4 x9,L.arr .u64 4 x10,L.int .i64 x11,L.arr .u8 32 x12,L.arr .u8 32 x13,L.int .i64 x14,L.int .i64 x15,L.int .i64 x16,L.int .i64 x17,L.int .i64 x18,L.int .i64 x19,L.int .i64 x20,L.int .i64 x21,L.arr .u8 32 x22,L.sl 1 x23,L.arr .u64 4 x24,L.int .i64 x25,L.int .i64 x26,L.int .i64 x27,L.int .i64 x28,L.int .i64 x29,L.arr .u8 32 x30,L.sl 1 x31,L.arr .u64 4 x32,L.ptr x33,L.int .i64 x34,L.int .i64 x35,L.int .i64 x36,L.own true 68 (List.replicate (List.length x37) (Zah.ls (Zah.mk 0 (List.replicate 32 0) (List.replicate 32 0) 0 0 0)))]}),(7,{oc:=[L.int .i64 x2,L.int .i64 x3,L.int .i64 x4,L.int .i64 x5,L.bool x6,L.sl 2 x7,L.sl 33 x8,L.arr .u64 4 x9,L.arr .u64 4 x10,L.int .i64 x11,L.arr .u8 32 x12,L.arr .u8 32 x13,L.int .i64 x14,L.int .i64 x15,L.int .i64 x16,L.int .i64 x17,L.int .i64 x18,L.int .i64 x19,L.int .i64 x20,L.int .i64 x21,L.arr .u8 32 x22,L.sl 1 x23,L.arr .u64 4 x24,L.int .i64 x25,L.int .i64 x26,L.int .i64 x27,L.int .i64 x28,L.int .i64 x29,L.arr .u8 32 x30,L.sl 1 x31,L.arr .u64 4 x32,L.ptr x33,L.int .i64 0,L.int .i64 x35,L.int .i64 x36,L.own true 68 (List.replicate (List.length x37) (Zah.ls (Zah.mk 0 (List.replicate 32 0) (List.replicate 32 0) 0 0 0)))],m:=12})],.r [(1,{m:=2})]] [] 0 [0] (aM c2 z0 (@rfl _ (List.length x37):(List.length x37)=(List.length x37)) c2 (ZbR c2 [L.int .i64 x2,L.int .i64 x3,L.int .i64 x4,L.int .i64 x5,L.bool x6,L.sl 2 x7,L.sl 33 x8,L.arr .u64 4 x9,L.arr .u64 4 x10,L.int .i64 x11,L.arr .u8 32 x12,L.arr .u8 32 x13,L.int .i64 x14,L.int .i64 x15,L.int .i64 x16,L.int .i64 x17,L.int .i64 x18,L.int .i64 x19,L.int .i64 x20,L.int .i64 x21,L.arr .u8 32 x22,L.sl 1 x23,L.arr .u64 4 x24,L.int .i64 x25,L.int .i64 x26,L.int .i64 x27,L.int .i64 x28,L.int .i64 x29,L.arr .u8 32 x30,L.sl 1 x31,L.arr .u64 4 x32,L.ptr x33,L.int .i64 x34,L.int .i64 x35,L.int .i64 x36,L.own true 68 (List.replicate (List.length x37) (Zah.ls (Zah.mk 0 (List.replicate 32 0) (List.replicate 32 0) 0 0 0)))]) (ZbR (ZbR c2 [L.int .i64 x2,L.int .i64 x3,L.int .i64 x4,L.int .i64 x5,L.bool x6,L.sl 2 x7,L.sl 33 x8,L.arr .u64 4 x9,L.arr .u64 4 x10,L.int .i64 x11,L.arr .u8 32 x12,L.arr .u8 32 x13,L.int .i64 x14,L.int .i64 x15,L.int .i64 x16,L.int .i64 x17,L.int .i64 x18,L.int .i64 x19,L.int .i64 x20,L.int .i64 x21,L.arr .u8 32 x22,L.sl 1 x23,L.arr .u64 4 x24,L.int .i64 x25,L.int .i64 x26,L.int .i64 x27,L.int .i64 x28,L.int .i64 x29,L.arr .u8 32 x30,L.sl 1 x31,L.arr .u64 4 x32,L.ptr x33,L.int .i64 x34,L.int .i64 x35,L.int .i64 x36,L.own true 68 (List.replicate (List.length x37) (Zah.ls (Zah.mk 0 (List.replicate 32 0) (List.replicate 32 0) 0 0 0)))]) [L.int .i64 x2,L.int .i64 x3,L.int .i64 x4,L.int .i64 x5,L.bool x6,L.sl 2 x7,L.sl 33 x8,L.arr .u64 4 x9,L.arr .u64 4 x10,L.int .i64 x11,L.arr .u8 32 x12,L.arr .u8 32 x13,L.int .i64 x14,L.int .i64 x15,L.int .i64 x16,L.int .i64 x17,L.int .i64 x18,L.int .i64 x19,L.int .i64 x20,L.int .i64 x21,L.arr .u8 32 x22,L.sl 1 x23,L.arr .u64 4 x24,L.int .i64 x25,L.int .i64 x26,L.int .i64 x27,L.int .i64 x28,L.int .i64 x29,L.arr .u8 32 x30,L.sl 1 x31,L.arr .u64 4 x32,L.ptr x33,L.int .i64 0,L.int .i64 x35,L.int .i64 x36,L.own true 68 (List.replicate (List.length x37) (Zah.ls (Zah.mk 0 (List.replicate 32 0) (List.replicate 32 0) 0 0 0)))]))
end Go.Dn.F
